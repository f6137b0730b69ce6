/- Go functions of the program as plain Lean functions, and for each the contract that the call comes to its answers; written by a turned print of this session. -/
import Derived.Test.YtkoiffkonjpoiaaQ0
import Derived.Test.YtkoiffkonjpoiaaQB17
import Derived.Test.YtkoiffkonjpoiaaQB24
import Derived.Test.YtkoiffkonjpoiaaQB3
import Derived.Test.YtkoiffkonjpoiaaQB5
import Derived.Test.YtkoiffkonjpoiaaQB7
import Derived.Test.YtkoiffkonjpoiaaQB8
namespace Go.Proofs.Ytkoiffkonjpoiaa.Q
open Go.RowKit Go.Proofs.YtkoiffkonjpoiaaW.PrintWords Go.Proofs.YtkoiffkonjpoiaaW.PrintLast Go.Proofs.YtkoiffkonjpoiaaW.PrintMore Go.Proofs.YtkoiffkonjpoiaaX
attribute [local go_sem] max2_int min2_int max_two min_two max_three min_three max_four min_four   -- for this text's walks alone
set_option linter.unusedVariables false
set_option linter.unusedSimpArgs false

/-! ### boscagelaw03_InnerMerges: function 28 -/
def boscagelaw03_InnerMerges.j0 : Nat → Int → Int → Bool → List Int → List Int → List Int → List Int → Option (Bool)
  | 0, _, _, _, _, _, _, _ => none
  | k + 1, x1, x2, x25, x1199000, x1199001, x1205000, x1205001 => if x25 = true then ((boscagelaw03_Instead.f k x1199000 x1199001 x1 (wrap64 (x1 + 2)) ([] : List Int) (([x2] : List Int))).bind fun bt1209 => ((inner_Inner_Merged.f k x1199000 x1199001 x1 x2).bind fun bt1215 => ((boscagelaw03_Same.f k bt1215.1 bt1215.2 bt1209.1 bt1209.2).bind fun t1221 => (some t1221)))) else ((inner_Inner_Merged.f k x1199000 x1199001 x1 x2).bind fun bt1222 => ((boscagelaw03_Same.f k bt1222.1 bt1222.2 x1205000 x1205001).bind fun t1228 => (some t1228)))
def boscagelaw03_InnerMerges.f (k : Nat) (l0_0 : List Int) (l0_1 : List Int) (a1 : Int) (a2 : Int) : Option (Bool) := (boscagelaw03_Awake.f k).bind fun t1199 => (if t1199 = true then ((boscagelaw03_short.f k (([(⟨l0_0, l0_1⟩ : S26)] : List (S26)))).bind fun t1203 => (if t1203 = true then ((boscagelaw03_in.f l0_0 l0_1 a1).bind fun t1205 => (if t1205 = true then (boscagelaw03_InnerMerges.j0 k a1 a2 (decide (a1 < (wrap64 ((l0_1.length : Int) - 1)))) l0_0 l0_1 l0_0 l0_1) else (boscagelaw03_InnerMerges.j0 k a1 a2 false l0_0 l0_1 l0_0 l0_1))) else (some true))) else (some false))
theorem boscagelaw03_InnerMerges.mono_l : ∀ k, (∀ y0 y1 y2 y3 y4 y5 y6, LeO (boscagelaw03_InnerMerges.j0 k y0 y1 y2 y3 y4 y5 y6) (boscagelaw03_InnerMerges.j0 (k + 1) y0 y1 y2 y3 y4 y5 y6))
  | 0 => fun _ _ _ _ _ _ _ r h => by simp [boscagelaw03_InnerMerges.j0] at h
  | k + 1 => by
    have ih0 := boscagelaw03_InnerMerges.mono_l k
    · intro y0 y1 y2 y3 y4 y5 y6
      unfold boscagelaw03_InnerMerges.j0
      repeat' first
      | (with_reducible exact ih0 _ _ _ _ _ _ _)
      | (with_reducible exact boscagelaw03_Awake.mono _)
      | (with_reducible exact boscagelaw03_Instead.mono _ _ _ _ _ _ _)
      | (with_reducible exact boscagelaw03_Same.mono _ _ _ _ _)
      | (with_reducible exact boscagelaw03_short.mono _ _)
      | (with_reducible exact inner_Inner_Merged.mono _ _ _ _ _)
      | (with_reducible exact LeO.refl _)
      | (with_reducible exact LeO.none _)
      | (with_reducible refine LeO.ite ?_ ?_)
      | (with_reducible refine LeO.bind ?_ (fun _ => ?_))
      | exact ih0 _ _ _ _ _ _ _
      | exact boscagelaw03_Awake.mono _
      | exact boscagelaw03_Instead.mono _ _ _ _ _ _ _
      | exact boscagelaw03_Same.mono _ _ _ _ _
      | exact boscagelaw03_short.mono _ _
      | exact inner_Inner_Merged.mono _ _ _ _ _
      | exact LeO.none _
      | refine LeO.ite ?_ ?_
      | refine LeO.bind ?_ (fun _ => ?_)
theorem boscagelaw03_InnerMerges.mono : ∀ a0 a1 a2 a3 k, LeO (boscagelaw03_InnerMerges.f k a0 a1 a2 a3) (boscagelaw03_InnerMerges.f (k + 1) a0 a1 a2 a3) := by
  intro a0 a1 a2 a3 k
  have ih0 := boscagelaw03_InnerMerges.mono_l k
  unfold boscagelaw03_InnerMerges.f
  repeat' first
      | (with_reducible exact ih0 _ _ _ _ _ _ _)
      | (with_reducible exact boscagelaw03_Awake.mono _)
      | (with_reducible exact boscagelaw03_Instead.mono _ _ _ _ _ _ _)
      | (with_reducible exact boscagelaw03_Same.mono _ _ _ _ _)
      | (with_reducible exact boscagelaw03_short.mono _ _)
      | (with_reducible exact inner_Inner_Merged.mono _ _ _ _ _)
      | (with_reducible exact LeO.refl _)
      | (with_reducible exact LeO.none _)
      | (with_reducible refine LeO.ite ?_ ?_)
      | (with_reducible refine LeO.bind ?_ (fun _ => ?_))
      | exact ih0 _ _ _ _ _ _ _
      | exact boscagelaw03_Awake.mono _
      | exact boscagelaw03_Instead.mono _ _ _ _ _ _ _
      | exact boscagelaw03_Same.mono _ _ _ _ _
      | exact boscagelaw03_short.mono _ _
      | exact inner_Inner_Merged.mono _ _ _ _ _
      | exact LeO.none _
      | refine LeO.ite ?_ ?_
      | refine LeO.bind ?_ (fun _ => ?_)
set_option maxHeartbeats 8000000 in
set_option maxRecDepth 100000 in
theorem boscagelaw03_InnerMerges.calls (k : Nat) (P0_0_ : Nat → Prop) (A0_0 : Option Addr) (c0_0 : Nat) (l0_0 : List Int) (P0_1_ : Nat → Prop) (A0_1 : Option Addr) (c0_1 : Nat) (l0_1 : List Int) (a1 : Int) (a2 : Int) (r : Bool) (w : World) (hs0_0 : Kd.V (Kd.int .i64) 2 w w.heap.size (fun k_ => P0_0_ k_) (.slice A0_0 l0_0.length c0_0) l0_0) (hs0_1 : Kd.V (Kd.int .i64) 47 w w.heap.size (fun k_ => P0_1_ k_) (.slice A0_1 l0_1.length c0_1) l0_1) (h : boscagelaw03_InnerMerges.f k l0_0 l0_1 a1 a2 = some r) :
    Calls Try.prog 28 #[.agg #[.slice A0_0 l0_0.length c0_0, .slice A0_1 l0_1.length c0_1], .int .i64 a1, .int .i64 a2] w fun e w' => e = .returned (.bool r) ∧ Below w.heap.size w w' := by
  have hu26 := Try.underlying26
  have HO0_0 := Aside0.mk (show Kd.V (Kd.int .i64) 2 w w.heap.size (fun k_ => ((P0_0_ k_ ∨ P0_1_ k_) ∨ w.heap.size ≤ k_)) (.slice A0_0 l0_0.length c0_0) l0_0 from Kd.V_mono hs0_0 (fun k_ hk => .inl (.inl hk)))
  have HO0_1 := Aside0.mk (show Kd.V (Kd.int .i64) 47 w w.heap.size (fun k_ => ((P0_0_ k_ ∨ P0_1_ k_) ∨ w.heap.size ≤ k_)) (.slice A0_1 l0_1.length c0_1) l0_1 from Kd.V_mono hs0_1 (fun k_ hk => .inl (.inr hk)))
  have HB := Aside0.mk (Below.refl w.heap.size w)
  have H : ((boscagelaw03_Awake.f k).bind fun t1199 => (if t1199 = true then ((boscagelaw03_short.f k (([(⟨l0_0, l0_1⟩ : S26)] : List (S26)))).bind fun t1203 => (if t1203 = true then ((boscagelaw03_in.f l0_0 l0_1 a1).bind fun t1205 => (if t1205 = true then (boscagelaw03_InnerMerges.j0 k a1 a2 (decide (a1 < (wrap64 ((l0_1.length : Int) - 1)))) l0_0 l0_1 l0_0 l0_1) else (boscagelaw03_InnerMerges.j0 k a1 a2 false l0_0 l0_1 l0_0 l0_1))) else (some true))) else (some false))) = some r := h
  clear h
  replace H := Option.bind_eq_some_iff.mp H
  obtain ⟨t1199, A40, H⟩ := H
  replace H : (if t1199 = true then ((boscagelaw03_short.f k (([(⟨l0_0, l0_1⟩ : S26)] : List (S26)))).bind fun t1203 => (if t1203 = true then ((boscagelaw03_in.f l0_0 l0_1 a1).bind fun t1205 => (if t1205 = true then (boscagelaw03_InnerMerges.j0 k a1 a2 (decide (a1 < (wrap64 ((l0_1.length : Int) - 1)))) l0_0 l0_1 l0_0 l0_1) else (boscagelaw03_InnerMerges.j0 k a1 a2 false l0_0 l0_1 l0_0 l0_1))) else (some true))) else (some false)) = some r := H
  have A4 := Aside0.mk A40
  clear A40
  by_cases c5 : t1199 = true
  · subst c5
    have H1 : ((boscagelaw03_short.f k (([(⟨l0_0, l0_1⟩ : S26)] : List (S26)))).bind fun t1203 => (if t1203 = true then ((boscagelaw03_in.f l0_0 l0_1 a1).bind fun t1205 => (if t1205 = true then (boscagelaw03_InnerMerges.j0 k a1 a2 (decide (a1 < (wrap64 ((l0_1.length : Int) - 1)))) l0_0 l0_1 l0_0 l0_1) else (boscagelaw03_InnerMerges.j0 k a1 a2 false l0_0 l0_1 l0_0 l0_1))) else (some true))) = some r := by rw [if_pos rfl] at H; exact H
    clear H
    have H := H1
    clear H1
    obtain ⟨y1200, hy1200⟩ : ∃ y_ : List (S26), y_ = (([(⟨l0_0, l0_1⟩ : S26)] : List (S26))) := ⟨_, rfl⟩
    replace H : ((boscagelaw03_short.f k y1200).bind fun t1203 => (if t1203 = true then ((boscagelaw03_in.f l0_0 l0_1 a1).bind fun t1205 => (if t1205 = true then (boscagelaw03_InnerMerges.j0 k a1 a2 (decide (a1 < (wrap64 ((l0_1.length : Int) - 1)))) l0_0 l0_1 l0_0 l0_1) else (boscagelaw03_InnerMerges.j0 k a1 a2 false l0_0 l0_1 l0_0 l0_1))) else (some true))) = some r := by first | (rw [hy1200]; with_reducible exact H) | (have H2_ := (Option.bind_some _ _).symm.trans H; rw [hy1200]; with_reducible exact H2_) | (have H2_ := (Option.bind_some _ _).symm.trans H; with_reducible exact H2_) | with_reducible exact H | (rw [hy1200]; exact H) | exact H
    have Ny1200 := Aside0.mk hy1200
    clear hy1200
    replace H := Option.bind_eq_some_iff.mp H
    obtain ⟨t1203, A60, H⟩ := H
    replace H : (if t1203 = true then ((boscagelaw03_in.f l0_0 l0_1 a1).bind fun t1205 => (if t1205 = true then (boscagelaw03_InnerMerges.j0 k a1 a2 (decide (a1 < (wrap64 ((l0_1.length : Int) - 1)))) l0_0 l0_1 l0_0 l0_1) else (boscagelaw03_InnerMerges.j0 k a1 a2 false l0_0 l0_1 l0_0 l0_1))) else (some true)) = some r := H
    have A6 := Aside0.mk A60
    clear A60
    by_cases c7 : t1203 = true
    · subst c7
      have H1 : ((boscagelaw03_in.f l0_0 l0_1 a1).bind fun t1205 => (if t1205 = true then (boscagelaw03_InnerMerges.j0 k a1 a2 (decide (a1 < (wrap64 ((l0_1.length : Int) - 1)))) l0_0 l0_1 l0_0 l0_1) else (boscagelaw03_InnerMerges.j0 k a1 a2 false l0_0 l0_1 l0_0 l0_1))) = some r := by rw [if_pos rfl] at H; exact H
      clear H
      have H := H1
      clear H1
      have HC8 := Aside0.mk H
      clear H
      go_enter Try.func28, Try.ntmps28
      go_upto_region 6 with (first | ((with_reducible refine gate_dst (N := 3) rfl ?_); (try (refine gate_guard (by rfl) ?_; dsimp only)); refine box_event ?hg (N := 3) ?hd (cs := #[.slice A0_0 l0_0.length c0_0, .slice A0_1 l0_1.length c0_1]) (t := 26) ?hr ?_; (case hd => rfl); (case hg => rfl); (case hr => first | (go_simp; done) | (go_simp; rfl)); intro gb1198 hg w9 hbox hb; have n0_ := Aside0.mk (Kd.V_below (Kd.V_elderB (by (with_reducible repeat (first | apply Kd.V_alloc | apply Kd.V_drewN | apply Kd.V_drew)); exact HO0_0.out) gb1198 (Nat.le_of_eq hg.symm)) hb); have n1_ := Aside0.mk (Kd.V_below (Kd.V_elderB (by (with_reducible repeat (first | apply Kd.V_alloc | apply Kd.V_drewN | apply Kd.V_drew)); exact HO0_1.out) gb1198 (Nat.le_of_eq hg.symm)) hb); have n2_ := Aside0.mk (below_step (by repeat (first | (with_reducible first | exact HB.out | apply below_alloc | apply pw_below_drewN | apply below_drew1) | exact HB.out)) hb); have n3_ := Aside0.mk (hbox); have n4_ := Aside0.mk ((by rw [hg]; exact (below_size (by repeat (first | (with_reducible first | exact HB.out | apply below_alloc | apply pw_below_drewN | apply below_drew1) | exact HB.out))) : w.heap.size ≤ gb1198)); have n5_ := Aside0.mk ((by rw [hg]; exact (below_size (by repeat (first | (with_reducible first | exact HB.out | apply below_alloc | apply pw_below_drewN | apply below_drew1) | exact HB.out))) : w.heap.size ≤ gb1198)); clear HO0_0; clear HO0_1; clear HB; have HO0_0 := n0_; have HO0_1 := n1_; have HB := n2_; have BK1198 := n3_; have GW1198 := n4_; have GE1198 := n5_; clear n0_ n1_ n2_ n3_ n4_ n5_; clear hb hbox hg) | ((with_reducible refine gate_callee (f := 38) rfl ?_); refine goesL_ (some 8) rfl rfl Try.func38 (by kernel_rfl) rfl #[] rfl (by (try simp only [List.map_toArray, List.map_cons, List.map_nil]); first | done | rfl | (simp only [List.length_drop, List.length_take]; rfl)) ?_; (with_reducible refine (boscagelaw03_Awake.calls k  true _ A4.out).mono ?_); rintro e w10 ⟨rfl, hb⟩; refine ⟨_, rfl, ?_⟩; have n0_ := Aside0.mk (Kd.V_below (by (with_reducible repeat (first | apply Kd.V_alloc | apply Kd.V_drewN | apply Kd.V_drew)); exact HO0_0.out) hb); have n1_ := Aside0.mk (Kd.V_below (by (with_reducible repeat (first | apply Kd.V_alloc | apply Kd.V_drewN | apply Kd.V_drew)); exact HO0_1.out) hb); have n2_ := Aside0.mk (blk_below (g := gb1198) (o := .cells #[.slice A0_0 l0_0.length c0_0, .slice A0_1 l0_1.length c0_1] 26 (0, 0)) (by (with_reducible repeat (first | refine blk_drewN ?_ _ | refine blk_drew ?_ | refine blk_alloc ?_ _)); exact BK1198.out) hb); have n3_ := Aside0.mk (below_step (by repeat (first | (with_reducible first | exact HB.out | apply below_alloc | apply pw_below_drewN | apply below_drew1 | refine below_set ?_ GE1198.out) | exact HB.out)) hb); clear HO0_0; clear HO0_1; clear BK1198; clear HB; have HO0_0 := n0_; have HO0_1 := n1_; have BK1198 := n2_; have HB := n3_; clear n0_ n1_ n2_ n3_; (try clear hb); (try clear hb2); (try clear hk); (try clear hi); have hcz11_0 : w10.cell? ⟨gb1198, 0, none⟩ = some (.slice A0_0 l0_0.length c0_0) := (blk_cell BK1198.out 0).trans rfl; have hcz11_1 : w10.cell? ⟨gb1198, 1, none⟩ = some (.slice A0_1 l0_1.length c0_1) := (blk_cell BK1198.out 1).trans rfl; have hfz11_0 := blk_frozen BK1198.out 0; have hfz11_1 := blk_frozen BK1198.out 1) | ((with_reducible refine gate_dst (N := 11) rfl ?_); (try (refine gate_guard (by rfl) ?_; dsimp only)); refine Kd.N_lit k26 _ 26 ?hg (N' := 11) ?hd (xs := ([(⟨l0_0, l0_1⟩ : S26)] : List (S26))) (inner := [.slice A0_0 l0_0.length c0_0, .slice A0_1 l0_1.length c0_1]) (ok := (fun k_ => ((P0_0_ k_ ∨ P0_1_ k_) ∨ w.heap.size ≤ k_) ∧ k_ ≠ gb1198)) (okp := (fun k_ => ((P0_0_ k_ ∨ P0_1_ k_) ∨ w.heap.size ≤ k_) ∧ k_ ≠ gb1198)) ?hr ?hp (fun _ hk => hk) ((show ∀ k_, w10.heap.size ≤ k_ → (fun k_ => ((P0_0_ k_ ∨ P0_1_ k_) ∨ w.heap.size ≤ k_) ∧ k_ ≠ gb1198) k_ from fun k_ hk => ⟨(.inr (Nat.le_trans (below_size (by repeat (first | (with_reducible first | exact HB.out | apply below_alloc | apply pw_below_drewN | apply below_drew1 | refine below_set ?_ GE1198.out) | exact HB.out))) hk)), Kd.freshB (g := gb1198) (o := .cells #[.slice A0_0 l0_0.length c0_0, .slice A0_1 l0_1.length c0_1] 26 (0, 0)) (by (with_reducible repeat (first | refine blk_drewN ?_ _ | refine blk_drew ?_ | refine blk_alloc ?_ _)); exact BK1198.out) k_ hk⟩) _ (Nat.le_refl _)) (Below.refl _ _) (Nat.le_refl _) (by simp) ?_; (case hd => rfl); (case hg => rfl); (case hr => first | (go_simp; done) | (go_simp; rfl)); (case hp => exact (Reps.c2 (show Kd.FK k26 _ _ (⟨l0_0, l0_1⟩ : S26) [.slice A0_0 l0_0.length c0_0, .slice A0_1 l0_1.length c0_1] from (k26_mkF _ _ (⟨l0_0, l0_1⟩ : S26) (Kd.V_reads' (Kd.V_mono (ok' := (fun k_ => ((P0_0_ k_ ∨ P0_1_ k_) ∨ w.heap.size ≤ k_) ∧ k_ ≠ gb1198)) (HO0_0.out) (fun k_ hk => ⟨hk.1, hk.2⟩))).2.1 (Kd.V_F (Kd.V_mono (ok' := (fun k_ => ((P0_0_ k_ ∨ P0_1_ k_) ∨ w.heap.size ≤ k_) ∧ k_ ≠ gb1198)) (HO0_0.out) (fun k_ hk => ⟨hk.1, hk.2⟩))) (Kd.V_reads' (Kd.V_mono (ok' := (fun k_ => ((P0_0_ k_ ∨ P0_1_ k_) ∨ w.heap.size ≤ k_) ∧ k_ ≠ gb1198)) (HO0_1.out) (fun k_ hk => ⟨hk.1, hk.2⟩))).2.1 (Kd.V_F (Kd.V_mono (ok' := (fun k_ => ((P0_0_ k_ ∨ P0_1_ k_) ∨ w.heap.size ≤ k_) ∧ k_ ≠ gb1198)) (HO0_1.out) (fun k_ hk => ⟨hk.1, hk.2⟩))))) (Reps.none _ _))); intro v1201 w12 ho13 hb hg_ hnew_; clear hg_ hnew_; (first | rw [← Ny1200.out] at ho13 | (simp only [Int.reduceToNat] at ho13; rw [← Ny1200.out] at ho13)); have n0_ := Aside0.mk (Kd.V_elder' (by (with_reducible repeat (first | apply Kd.V_alloc | apply Kd.V_drewN | apply Kd.V_drew)); exact HO0_0.out) (Kd.N_base ho13) hb); have n1_ := Aside0.mk (Kd.V_elder' (by (with_reducible repeat (first | apply Kd.V_alloc | apply Kd.V_drewN | apply Kd.V_drew)); exact HO0_1.out) (Kd.N_base ho13) hb); have n2_ := Aside0.mk (Kd.N_lower ho13 (below_size (by repeat (first | (with_reducible first | exact HB.out | apply below_alloc | apply pw_below_drewN | apply below_drew1 | refine below_set ?_ GE1198.out) | exact HB.out)))); have n3_ := Aside0.mk (blk_below (g := gb1198) (o := .cells #[.slice A0_0 l0_0.length c0_0, .slice A0_1 l0_1.length c0_1] 26 (0, 0)) (by (with_reducible repeat (first | refine blk_drewN ?_ _ | refine blk_drew ?_ | refine blk_alloc ?_ _)); exact BK1198.out) hb); have n4_ := Aside0.mk (below_step (by repeat (first | (with_reducible first | exact HB.out | apply below_alloc | apply pw_below_drewN | apply below_drew1 | refine below_set ?_ GE1198.out) | exact HB.out)) hb); clear HO0_0; clear HO0_1; clear BK1198; clear HB; have HO0_0 := n0_; have HO0_1 := n1_; have HO1202 := n2_; have BK1198 := n3_; have HB := n4_; clear n0_ n1_ n2_ n3_ n4_; clear hb ho13; obtain ⟨Ao14, co14, eo14⟩ := Kd.N_slice HO1202.out; subst eo14) | ((with_reducible refine gate_callee (f := 42) rfl ?_); refine goesL_ (some 12) rfl rfl Try.func42 (by kernel_rfl) rfl #[.slice Ao14 y1200.length co14] rfl (by (try simp only [List.map_toArray, List.map_cons, List.map_nil]); first | done | rfl | (simp only [List.length_drop, List.length_take]; rfl)) ?_; (with_reducible refine (boscagelaw03_short.calls k _ _ y1200 true _ ?side1 ?side2 A6.out).mono ?_); (case side1 => repeat (first | exact (Kd.N_reads' HO1202.out).2.2 | (with_reducible refine Kd.C_alloc ?_ _) | (with_reducible refine Kd.C_drewN ?_ _) | (with_reducible refine Kd.C_drew ?_))); (case side2 => exact (Kd.N_reads' HO1202.out).2.1); rintro e w15 ⟨rfl, hb⟩; refine ⟨_, rfl, ?_⟩; have n0_ := Aside0.mk (Kd.V_below (by (with_reducible repeat (first | apply Kd.V_alloc | apply Kd.V_drewN | apply Kd.V_drew)); exact HO0_0.out) hb); have n1_ := Aside0.mk (Kd.V_below (by (with_reducible repeat (first | apply Kd.V_alloc | apply Kd.V_drewN | apply Kd.V_drew)); exact HO0_1.out) hb); have n2_ := Aside0.mk (Kd.N_below (by (with_reducible repeat (first | apply Kd.N_alloc | apply Kd.N_drewN | apply Kd.N_drew)); exact HO1202.out) hb); have n3_ := Aside0.mk (blk_below (g := gb1198) (o := .cells #[.slice A0_0 l0_0.length c0_0, .slice A0_1 l0_1.length c0_1] 26 (0, 0)) (by (with_reducible repeat (first | refine blk_drewN ?_ _ | refine blk_drew ?_ | refine blk_alloc ?_ _)); exact BK1198.out) hb); have n4_ := Aside0.mk (below_step (by repeat (first | (with_reducible first | exact HB.out | apply below_alloc | apply pw_below_drewN | apply below_drew1 | refine below_set ?_ GE1198.out) | exact HB.out)) hb); clear HO0_0; clear HO0_1; clear HO1202; clear BK1198; clear HB; have HO0_0 := n0_; have HO0_1 := n1_; have HO1202 := n2_; have BK1198 := n3_; have HB := n4_; clear n0_ n1_ n2_ n3_ n4_; (try clear hb); (try clear hb2); (try clear hk); (try clear hi); have hcz16_0 : w15.cell? ⟨gb1198, 0, none⟩ = some (.slice A0_0 l0_0.length c0_0) := (blk_cell BK1198.out 0).trans rfl; have hcz16_1 : w15.cell? ⟨gb1198, 1, none⟩ = some (.slice A0_1 l0_1.length c0_1) := (blk_cell BK1198.out 1).trans rfl; have hfz16_0 := blk_frozen BK1198.out 0; have hfz16_1 := blk_frozen BK1198.out 1) | ((with_reducible refine gate_dst (N := 7) rfl ?_); (try (refine gate_guard (by rfl) ?_; dsimp only)); refine box_event ?hg (N := 7) ?hd (cs := #[.slice none 0 0, .slice none 0 0]) (t := 26) ?hr ?_; (case hd => rfl); (case hg => rfl); (case hr => first | (go_simp; done) | (go_simp; rfl)); intro gb1204 hg w17 hbox hb; have n0_ := Aside0.mk (Kd.V_below (Kd.V_elderB (by (with_reducible repeat (first | apply Kd.V_alloc | apply Kd.V_drewN | apply Kd.V_drew)); exact HO0_0.out) gb1204 (Nat.le_of_eq hg.symm)) hb); have n1_ := Aside0.mk (Kd.V_below (Kd.V_elderB (by (with_reducible repeat (first | apply Kd.V_alloc | apply Kd.V_drewN | apply Kd.V_drew)); exact HO0_1.out) gb1204 (Nat.le_of_eq hg.symm)) hb); have n2_ := Aside0.mk (Kd.N_below (Kd.N_elderB (by (with_reducible repeat (first | apply Kd.N_alloc | apply Kd.N_drewN | apply Kd.N_drew)); exact HO1202.out) gb1204 (Nat.le_of_eq hg.symm)) hb); have n3_ := Aside0.mk (blk_below (g := gb1198) (o := .cells #[.slice A0_0 l0_0.length c0_0, .slice A0_1 l0_1.length c0_1] 26 (0, 0)) (by (with_reducible repeat (first | refine blk_drewN ?_ _ | refine blk_drew ?_ | refine blk_alloc ?_ _)); exact BK1198.out) hb); have n4_ := Aside0.mk (below_step (by repeat (first | (with_reducible first | exact HB.out | apply below_alloc | apply pw_below_drewN | apply below_drew1 | refine below_set ?_ GE1198.out) | exact HB.out)) hb); have n5_ := Aside0.mk (hbox); have n6_ := Aside0.mk ((by rw [hg]; exact (below_size (by repeat (first | (with_reducible first | exact HB.out | apply below_alloc | apply pw_below_drewN | apply below_drew1 | refine below_set ?_ GE1198.out) | exact HB.out))) : w.heap.size ≤ gb1204)); have n7_ := Aside0.mk ((by rw [hg]; exact (below_size (by repeat (first | (with_reducible first | exact HB.out | apply below_alloc | apply pw_below_drewN | apply below_drew1 | refine below_set ?_ GE1198.out) | exact HB.out))) : w.heap.size ≤ gb1204)); have n8_ := Aside0.mk ((by rw [hg]; exact Nat.ne_of_lt (blk_lt (g := gb1198) (o := .cells #[.slice A0_0 l0_0.length c0_0, .slice A0_1 l0_1.length c0_1] 26 (0, 0)) (by (with_reducible repeat (first | refine blk_drewN ?_ _ | refine blk_drew ?_ | refine blk_alloc ?_ _)); exact BK1198.out)) : gb1198 ≠ gb1204)); have n9_ := Aside0.mk ((by rw [hg]; exact Nat.ne_of_gt (blk_lt (g := gb1198) (o := .cells #[.slice A0_0 l0_0.length c0_0, .slice A0_1 l0_1.length c0_1] 26 (0, 0)) (by (with_reducible repeat (first | refine blk_drewN ?_ _ | refine blk_drew ?_ | refine blk_alloc ?_ _)); exact BK1198.out)) : gb1204 ≠ gb1198)); clear HO0_0; clear HO0_1; clear HO1202; clear BK1198; clear HB; have HO0_0 := n0_; have HO0_1 := n1_; have HO1202 := n2_; have BK1198 := n3_; have HB := n4_; have BK1204 := n5_; have GW1204 := n6_; have GE1204 := n7_; have NB1198_1204 := n8_; have NB1204_1198 := n9_; clear n0_ n1_ n2_ n3_ n4_ n5_ n6_ n7_ n8_ n9_; clear hb hbox hg; have hnb18 := NB1204_1198.out; have hnc18 := NB1198_1204.out; have hcz19_0 : w17.cell? ⟨gb1204, 0, none⟩ = some (.slice none 0 0) := (blk_cell BK1204.out 0).trans rfl; have hcz19_1 : w17.cell? ⟨gb1204, 1, none⟩ = some (.slice none 0 0) := (blk_cell BK1204.out 1).trans rfl; have hfz19_0 := blk_frozen BK1204.out 0; have hfz19_1 := blk_frozen BK1204.out 1))
      (try simp only [Act.put, List.setIfInBounds_toArray, List.set_cons_zero, List.set_cons_succ])
      go_cut [25] (fun v25 wc => ∃ (kq : Nat) (x25_7 : Bool), v25 = .bool x25_7 ∧ Aside0 (boscagelaw03_InnerMerges.j0 kq a1 a2 x25_7 l0_0 l0_1 l0_0 l0_1 = some r) ∧ Aside0 (kq ≤ k) ∧ Aside0 (Kd.V (Kd.int .i64) 2 wc w.heap.size (fun k_ => ((P0_0_ k_ ∨ P0_1_ k_) ∨ w.heap.size ≤ k_) ∧ k_ ≠ gb1198 ∧ k_ ≠ gb1204) (.slice A0_0 l0_0.length c0_0) l0_0) ∧ Aside0 (Kd.V (Kd.int .i64) 47 wc w.heap.size (fun k_ => ((P0_0_ k_ ∨ P0_1_ k_) ∨ w.heap.size ≤ k_) ∧ k_ ≠ gb1198 ∧ k_ ≠ gb1204) (.slice A0_1 l0_1.length c0_1) l0_1) ∧ Aside0 (Kd.V (Kd.int .i64) 2 wc w.heap.size (fun k_ => ((P0_0_ k_ ∨ P0_1_ k_) ∨ w.heap.size ≤ k_) ∧ k_ ≠ gb1198 ∧ k_ ≠ gb1204) (.slice A0_0 l0_0.length c0_0) l0_0) ∧ Aside0 (Kd.V (Kd.int .i64) 47 wc w.heap.size (fun k_ => ((P0_0_ k_ ∨ P0_1_ k_) ∨ w.heap.size ≤ k_) ∧ k_ ≠ gb1198 ∧ k_ ≠ gb1204) (.slice A0_1 l0_1.length c0_1) l0_1) ∧ Aside0 (wc.heap[gb1198]? = some (.cells #[(.slice A0_0 l0_0.length c0_0), (.slice A0_1 l0_1.length c0_1)] 26 (0, 0))) ∧ Aside0 (wc.heap[gb1204]? = some (.cells #[(.slice A0_0 l0_0.length c0_0), (.slice A0_1 l0_1.length c0_1)] 26 (0, 0))) ∧ Aside0 (Below w.heap.size w wc))
      case first =>
        have H := HC8.out
        clear HC8
        replace H := Option.bind_eq_some_iff.mp H
        obtain ⟨t1205, A200, H⟩ := H
        replace H : (if t1205 = true then (boscagelaw03_InnerMerges.j0 k a1 a2 (decide (a1 < (wrap64 ((l0_1.length : Int) - 1)))) l0_0 l0_1 l0_0 l0_1) else (boscagelaw03_InnerMerges.j0 k a1 a2 false l0_0 l0_1 l0_0 l0_1)) = some r := H
        have A20 := Aside0.mk A200
        clear A200
        by_cases c21 : t1205 = true
        · subst c21
          have H1 : (boscagelaw03_InnerMerges.j0 k a1 a2 (decide (a1 < (wrap64 ((l0_1.length : Int) - 1)))) l0_0 l0_1 l0_0 l0_1) = some r := by rw [if_pos rfl] at H; exact H
          clear H
          have H := H1
          clear H1
          have H' := Aside0.mk H
          clear H
          have hnb22 := NB1198_1204.out
          have hnc22 := NB1204_1198.out
          have hcz23_0 : w17.cell? ⟨gb1198, 0, none⟩ = some (.slice A0_0 l0_0.length c0_0) := (blk_cell BK1198.out 0).trans rfl
          have hcz23_1 : w17.cell? ⟨gb1198, 1, none⟩ = some (.slice A0_1 l0_1.length c0_1) := (blk_cell BK1198.out 1).trans rfl
          have hfz23_0 := blk_frozen BK1198.out 0
          have hfz23_1 := blk_frozen BK1198.out 1
          go_wp2_with (first | ((with_reducible refine gate_callee (f := 50) rfl ?_); refine goesL_ (some 17) rfl rfl Try.func50 (by kernel_rfl) rfl #[.agg #[.slice A0_0 l0_0.length c0_0, .slice A0_1 l0_1.length c0_1], .int .i64 a1] rfl (by (try simp only [List.map_toArray, List.map_cons, List.map_nil]); first | done | rfl | (simp only [List.length_drop, List.length_take]; rfl)) ?_; (with_reducible refine (boscagelaw03_in.calls _ _ l0_0 _ _ l0_1 a1 true _ ?side1 ?side2 ?side3 ?side4 A20.out).mono ?_); (case side1 => refine (Kd.V_reads' (e := 2) (base := w.heap.size) (ok := fun k_ => (((((P0_0_ k_ ∨ P0_1_ k_) ∨ w.heap.size ≤ k_) ∧ k_ ≠ gb1198) ∧ some k_ ≠ (.slice Ao14 y1200.length co14 : Value).ownBlock) ∧ k_ ≠ gb1204)) (n := l0_0.length) (c := c0_0) ?_).2.2; exact (by (with_reducible repeat (first | apply Kd.V_alloc | apply Kd.V_drewN | apply Kd.V_drew)); exact (Kd.V_mono (Kd.V_far (p := ⟨gb1204, 1, none⟩) (Kd.V_far (p := ⟨gb1204, 0, none⟩) (Kd.V_mono HO0_0.out (fun k_ hk => (⟨hk, hk.2⟩ : _ ∧ k_ ≠ gb1204))) (fun _ hk => hk.2) (.slice A0_0 l0_0.length c0_0)) (fun _ hk => hk.2) (.slice A0_1 l0_1.length c0_1)) (fun _ h_ => h_.1)))); (case side2 => exact (Kd.V_reads' HO0_0.out).2.1); (case side3 => refine (Kd.V_reads' (e := 47) (base := w.heap.size) (ok := fun k_ => (((((P0_0_ k_ ∨ P0_1_ k_) ∨ w.heap.size ≤ k_) ∧ k_ ≠ gb1198) ∧ some k_ ≠ (.slice Ao14 y1200.length co14 : Value).ownBlock) ∧ k_ ≠ gb1204)) (n := l0_1.length) (c := c0_1) ?_).2.2; exact (by (with_reducible repeat (first | apply Kd.V_alloc | apply Kd.V_drewN | apply Kd.V_drew)); exact (Kd.V_mono (Kd.V_far (p := ⟨gb1204, 1, none⟩) (Kd.V_far (p := ⟨gb1204, 0, none⟩) (Kd.V_mono HO0_1.out (fun k_ hk => (⟨hk, hk.2⟩ : _ ∧ k_ ≠ gb1204))) (fun _ hk => hk.2) (.slice A0_0 l0_0.length c0_0)) (fun _ hk => hk.2) (.slice A0_1 l0_1.length c0_1)) (fun _ h_ => h_.1)))); (case side4 => exact (Kd.V_reads' HO0_1.out).2.1); rintro e w24 ⟨rfl, hb⟩; refine ⟨_, rfl, ?_⟩; have n0_ := Aside0.mk (Kd.V_below (by (with_reducible repeat (first | apply Kd.V_alloc | apply Kd.V_drewN | apply Kd.V_drew)); exact (Kd.V_mono (Kd.V_far (p := ⟨gb1204, 1, none⟩) (Kd.V_far (p := ⟨gb1204, 0, none⟩) (Kd.V_mono HO0_0.out (fun k_ hk => (⟨hk, hk.2⟩ : _ ∧ k_ ≠ gb1204))) (fun _ hk => hk.2) (.slice A0_0 l0_0.length c0_0)) (fun _ hk => hk.2) (.slice A0_1 l0_1.length c0_1)) (fun _ h_ => h_.1))) hb); have n1_ := Aside0.mk (Kd.V_below (by (with_reducible repeat (first | apply Kd.V_alloc | apply Kd.V_drewN | apply Kd.V_drew)); exact (Kd.V_mono (Kd.V_far (p := ⟨gb1204, 1, none⟩) (Kd.V_far (p := ⟨gb1204, 0, none⟩) (Kd.V_mono HO0_1.out (fun k_ hk => (⟨hk, hk.2⟩ : _ ∧ k_ ≠ gb1204))) (fun _ hk => hk.2) (.slice A0_0 l0_0.length c0_0)) (fun _ hk => hk.2) (.slice A0_1 l0_1.length c0_1)) (fun _ h_ => h_.1))) hb); have n2_ := Aside0.mk (Kd.N_below (by (with_reducible repeat (first | apply Kd.N_alloc | apply Kd.N_drewN | apply Kd.N_drew)); exact (Kd.N_mono (Kd.N_far (p := ⟨gb1204, 1, none⟩) (Kd.N_far (p := ⟨gb1204, 0, none⟩) (Kd.N_mono HO1202.out (fun k_ hk => (⟨hk, hk.2⟩ : _ ∧ k_ ≠ gb1204))) (fun _ hk => hk.2) (.slice A0_0 l0_0.length c0_0)) (fun _ hk => hk.2) (.slice A0_1 l0_1.length c0_1)) (fun _ h_ => h_.1))) hb); have n3_ := Aside0.mk (blk_below (g := gb1198) (o := .cells #[.slice A0_0 l0_0.length c0_0, .slice A0_1 l0_1.length c0_1] 26 (0, 0)) (by (with_reducible repeat (first | refine blk_drewN ?_ _ | refine blk_drew ?_ | refine blk_alloc ?_ _)); refine blk_far ?_ NB1198_1204.out _; (with_reducible repeat (first | refine blk_drewN ?_ _ | refine blk_drew ?_ | refine blk_alloc ?_ _)); refine blk_far ?_ NB1198_1204.out _; (with_reducible repeat (first | refine blk_drewN ?_ _ | refine blk_drew ?_ | refine blk_alloc ?_ _)); exact BK1198.out) hb); have n4_ := Aside0.mk (blk_below (g := gb1204) (o := .cells #[.slice A0_0 l0_0.length c0_0, .slice A0_1 l0_1.length c0_1] 26 (0, 0)) (by (with_reducible repeat (first | refine blk_drewN ?_ _ | refine blk_drew ?_ | refine blk_alloc ?_ _)); refine blk_put (cs := #[.slice A0_0 l0_0.length c0_0, .slice none 0 0]) ?_ 1 _ rfl; (with_reducible repeat (first | refine blk_drewN ?_ _ | refine blk_drew ?_ | refine blk_alloc ?_ _)); refine blk_put (cs := #[.slice none 0 0, .slice none 0 0]) ?_ 0 _ rfl; (with_reducible repeat (first | refine blk_drewN ?_ _ | refine blk_drew ?_ | refine blk_alloc ?_ _)); exact BK1204.out) hb); have n5_ := Aside0.mk (below_step (by repeat (first | (with_reducible first | exact HB.out | apply below_alloc | apply pw_below_drewN | apply below_drew1 | refine below_set ?_ GE1198.out | refine below_set ?_ GE1204.out) | exact HB.out)) hb); clear HO0_0; clear HO0_1; clear HO1202; clear BK1198; clear BK1204; clear HB; have HO0_0 := n0_; have HO0_1 := n1_; have HO1202 := n2_; have BK1198 := n3_; have BK1204 := n4_; have HB := n5_; clear n0_ n1_ n2_ n3_ n4_ n5_; (try clear hb); (try clear hb2); (try clear hk); (try clear hi); have hcz25_0 : w24.cell? ⟨gb1198, 0, none⟩ = some (.slice A0_0 l0_0.length c0_0) := (blk_cell BK1198.out 0).trans rfl; have hcz25_1 : w24.cell? ⟨gb1198, 1, none⟩ = some (.slice A0_1 l0_1.length c0_1) := (blk_cell BK1198.out 1).trans rfl; have hfz25_0 := blk_frozen BK1198.out 0; have hfz25_1 := blk_frozen BK1198.out 1))
          go_meet
          case rel => exact ⟨_, (decide (a1 < (wrap64 ((l0_1.length : Int) - 1)))), (by first | rfl | (simp; done) | (simp [*]; done)), H', ⟨by first | omega | exact Nat.le_refl _⟩, ⟨by (with_reducible repeat (first | apply Kd.V_alloc | apply Kd.V_drewN | apply Kd.V_drew)); exact Kd.V_mono HO0_0.out (fun _ hk => ⟨hk.1.1.1, ⟨hk.1.1.2, hk.2⟩⟩)⟩, ⟨by (with_reducible repeat (first | apply Kd.V_alloc | apply Kd.V_drewN | apply Kd.V_drew)); exact Kd.V_mono HO0_1.out (fun _ hk => ⟨hk.1.1.1, ⟨hk.1.1.2, hk.2⟩⟩)⟩, ⟨by (with_reducible repeat (first | apply Kd.V_alloc | apply Kd.V_drewN | apply Kd.V_drew)); exact Kd.V_mono HO0_0.out (fun _ hk => ⟨hk.1.1.1, ⟨hk.1.1.2, hk.2⟩⟩)⟩, ⟨by (with_reducible repeat (first | apply Kd.V_alloc | apply Kd.V_drewN | apply Kd.V_drew)); exact Kd.V_mono HO0_1.out (fun _ hk => ⟨hk.1.1.1, ⟨hk.1.1.2, hk.2⟩⟩)⟩, ⟨by (with_reducible repeat (first | refine blk_drewN ?_ _ | refine blk_drew ?_ | refine blk_alloc ?_ _)); exact BK1198.out⟩, ⟨by (with_reducible repeat (first | refine blk_drewN ?_ _ | refine blk_drew ?_ | refine blk_alloc ?_ _)); exact BK1204.out⟩, ⟨by repeat (first | (with_reducible first | exact HB.out | apply below_alloc | apply pw_below_drewN | apply below_drew1 | refine below_set ?_ GE1198.out | refine below_set ?_ GE1204.out) | exact HB.out)⟩⟩
        · replace c21 := Bool.eq_false_iff.mpr c21
          subst c21
          have H1 : (boscagelaw03_InnerMerges.j0 k a1 a2 false l0_0 l0_1 l0_0 l0_1) = some r := by rw [if_neg (show ¬ (false = true) by decide)] at H; exact H
          clear H
          have H := H1
          clear H1
          have H' := Aside0.mk H
          clear H
          have hnb26 := NB1198_1204.out
          have hnc26 := NB1204_1198.out
          have hcz27_0 : w17.cell? ⟨gb1198, 0, none⟩ = some (.slice A0_0 l0_0.length c0_0) := (blk_cell BK1198.out 0).trans rfl
          have hcz27_1 : w17.cell? ⟨gb1198, 1, none⟩ = some (.slice A0_1 l0_1.length c0_1) := (blk_cell BK1198.out 1).trans rfl
          have hfz27_0 := blk_frozen BK1198.out 0
          have hfz27_1 := blk_frozen BK1198.out 1
          go_wp2_with (first | ((with_reducible refine gate_callee (f := 50) rfl ?_); refine goesL_ (some 17) rfl rfl Try.func50 (by kernel_rfl) rfl #[.agg #[.slice A0_0 l0_0.length c0_0, .slice A0_1 l0_1.length c0_1], .int .i64 a1] rfl (by (try simp only [List.map_toArray, List.map_cons, List.map_nil]); first | done | rfl | (simp only [List.length_drop, List.length_take]; rfl)) ?_; (with_reducible refine (boscagelaw03_in.calls _ _ l0_0 _ _ l0_1 a1 false _ ?side1 ?side2 ?side3 ?side4 A20.out).mono ?_); (case side1 => refine (Kd.V_reads' (e := 2) (base := w.heap.size) (ok := fun k_ => (((((P0_0_ k_ ∨ P0_1_ k_) ∨ w.heap.size ≤ k_) ∧ k_ ≠ gb1198) ∧ some k_ ≠ (.slice Ao14 y1200.length co14 : Value).ownBlock) ∧ k_ ≠ gb1204)) (n := l0_0.length) (c := c0_0) ?_).2.2; exact (by (with_reducible repeat (first | apply Kd.V_alloc | apply Kd.V_drewN | apply Kd.V_drew)); exact (Kd.V_mono (Kd.V_far (p := ⟨gb1204, 1, none⟩) (Kd.V_far (p := ⟨gb1204, 0, none⟩) (Kd.V_mono HO0_0.out (fun k_ hk => (⟨hk, hk.2⟩ : _ ∧ k_ ≠ gb1204))) (fun _ hk => hk.2) (.slice A0_0 l0_0.length c0_0)) (fun _ hk => hk.2) (.slice A0_1 l0_1.length c0_1)) (fun _ h_ => h_.1)))); (case side2 => exact (Kd.V_reads' HO0_0.out).2.1); (case side3 => refine (Kd.V_reads' (e := 47) (base := w.heap.size) (ok := fun k_ => (((((P0_0_ k_ ∨ P0_1_ k_) ∨ w.heap.size ≤ k_) ∧ k_ ≠ gb1198) ∧ some k_ ≠ (.slice Ao14 y1200.length co14 : Value).ownBlock) ∧ k_ ≠ gb1204)) (n := l0_1.length) (c := c0_1) ?_).2.2; exact (by (with_reducible repeat (first | apply Kd.V_alloc | apply Kd.V_drewN | apply Kd.V_drew)); exact (Kd.V_mono (Kd.V_far (p := ⟨gb1204, 1, none⟩) (Kd.V_far (p := ⟨gb1204, 0, none⟩) (Kd.V_mono HO0_1.out (fun k_ hk => (⟨hk, hk.2⟩ : _ ∧ k_ ≠ gb1204))) (fun _ hk => hk.2) (.slice A0_0 l0_0.length c0_0)) (fun _ hk => hk.2) (.slice A0_1 l0_1.length c0_1)) (fun _ h_ => h_.1)))); (case side4 => exact (Kd.V_reads' HO0_1.out).2.1); rintro e w28 ⟨rfl, hb⟩; refine ⟨_, rfl, ?_⟩; have n0_ := Aside0.mk (Kd.V_below (by (with_reducible repeat (first | apply Kd.V_alloc | apply Kd.V_drewN | apply Kd.V_drew)); exact (Kd.V_mono (Kd.V_far (p := ⟨gb1204, 1, none⟩) (Kd.V_far (p := ⟨gb1204, 0, none⟩) (Kd.V_mono HO0_0.out (fun k_ hk => (⟨hk, hk.2⟩ : _ ∧ k_ ≠ gb1204))) (fun _ hk => hk.2) (.slice A0_0 l0_0.length c0_0)) (fun _ hk => hk.2) (.slice A0_1 l0_1.length c0_1)) (fun _ h_ => h_.1))) hb); have n1_ := Aside0.mk (Kd.V_below (by (with_reducible repeat (first | apply Kd.V_alloc | apply Kd.V_drewN | apply Kd.V_drew)); exact (Kd.V_mono (Kd.V_far (p := ⟨gb1204, 1, none⟩) (Kd.V_far (p := ⟨gb1204, 0, none⟩) (Kd.V_mono HO0_1.out (fun k_ hk => (⟨hk, hk.2⟩ : _ ∧ k_ ≠ gb1204))) (fun _ hk => hk.2) (.slice A0_0 l0_0.length c0_0)) (fun _ hk => hk.2) (.slice A0_1 l0_1.length c0_1)) (fun _ h_ => h_.1))) hb); have n2_ := Aside0.mk (Kd.N_below (by (with_reducible repeat (first | apply Kd.N_alloc | apply Kd.N_drewN | apply Kd.N_drew)); exact (Kd.N_mono (Kd.N_far (p := ⟨gb1204, 1, none⟩) (Kd.N_far (p := ⟨gb1204, 0, none⟩) (Kd.N_mono HO1202.out (fun k_ hk => (⟨hk, hk.2⟩ : _ ∧ k_ ≠ gb1204))) (fun _ hk => hk.2) (.slice A0_0 l0_0.length c0_0)) (fun _ hk => hk.2) (.slice A0_1 l0_1.length c0_1)) (fun _ h_ => h_.1))) hb); have n3_ := Aside0.mk (blk_below (g := gb1198) (o := .cells #[.slice A0_0 l0_0.length c0_0, .slice A0_1 l0_1.length c0_1] 26 (0, 0)) (by (with_reducible repeat (first | refine blk_drewN ?_ _ | refine blk_drew ?_ | refine blk_alloc ?_ _)); refine blk_far ?_ NB1198_1204.out _; (with_reducible repeat (first | refine blk_drewN ?_ _ | refine blk_drew ?_ | refine blk_alloc ?_ _)); refine blk_far ?_ NB1198_1204.out _; (with_reducible repeat (first | refine blk_drewN ?_ _ | refine blk_drew ?_ | refine blk_alloc ?_ _)); exact BK1198.out) hb); have n4_ := Aside0.mk (blk_below (g := gb1204) (o := .cells #[.slice A0_0 l0_0.length c0_0, .slice A0_1 l0_1.length c0_1] 26 (0, 0)) (by (with_reducible repeat (first | refine blk_drewN ?_ _ | refine blk_drew ?_ | refine blk_alloc ?_ _)); refine blk_put (cs := #[.slice A0_0 l0_0.length c0_0, .slice none 0 0]) ?_ 1 _ rfl; (with_reducible repeat (first | refine blk_drewN ?_ _ | refine blk_drew ?_ | refine blk_alloc ?_ _)); refine blk_put (cs := #[.slice none 0 0, .slice none 0 0]) ?_ 0 _ rfl; (with_reducible repeat (first | refine blk_drewN ?_ _ | refine blk_drew ?_ | refine blk_alloc ?_ _)); exact BK1204.out) hb); have n5_ := Aside0.mk (below_step (by repeat (first | (with_reducible first | exact HB.out | apply below_alloc | apply pw_below_drewN | apply below_drew1 | refine below_set ?_ GE1198.out | refine below_set ?_ GE1204.out) | exact HB.out)) hb); clear HO0_0; clear HO0_1; clear HO1202; clear BK1198; clear BK1204; clear HB; have HO0_0 := n0_; have HO0_1 := n1_; have HO1202 := n2_; have BK1198 := n3_; have BK1204 := n4_; have HB := n5_; clear n0_ n1_ n2_ n3_ n4_ n5_; (try clear hb); (try clear hb2); (try clear hk); (try clear hi)))
          go_meet
          case rel => exact ⟨_, (false), (by first | rfl | (simp; done) | (simp [*]; done)), H', ⟨by first | omega | exact Nat.le_refl _⟩, ⟨by (with_reducible repeat (first | apply Kd.V_alloc | apply Kd.V_drewN | apply Kd.V_drew)); exact Kd.V_mono HO0_0.out (fun _ hk => ⟨hk.1.1.1, ⟨hk.1.1.2, hk.2⟩⟩)⟩, ⟨by (with_reducible repeat (first | apply Kd.V_alloc | apply Kd.V_drewN | apply Kd.V_drew)); exact Kd.V_mono HO0_1.out (fun _ hk => ⟨hk.1.1.1, ⟨hk.1.1.2, hk.2⟩⟩)⟩, ⟨by (with_reducible repeat (first | apply Kd.V_alloc | apply Kd.V_drewN | apply Kd.V_drew)); exact Kd.V_mono HO0_0.out (fun _ hk => ⟨hk.1.1.1, ⟨hk.1.1.2, hk.2⟩⟩)⟩, ⟨by (with_reducible repeat (first | apply Kd.V_alloc | apply Kd.V_drewN | apply Kd.V_drew)); exact Kd.V_mono HO0_1.out (fun _ hk => ⟨hk.1.1.1, ⟨hk.1.1.2, hk.2⟩⟩)⟩, ⟨by (with_reducible repeat (first | refine blk_drewN ?_ _ | refine blk_drew ?_ | refine blk_alloc ?_ _)); exact BK1198.out⟩, ⟨by (with_reducible repeat (first | refine blk_drewN ?_ _ | refine blk_drew ?_ | refine blk_alloc ?_ _)); exact BK1204.out⟩, ⟨by repeat (first | (with_reducible first | exact HB.out | apply below_alloc | apply pw_below_drewN | apply below_drew1 | refine below_set ?_ GE1198.out | refine below_set ?_ GE1204.out) | exact HB.out)⟩⟩
      case rest =>
        clear HC8
        try clear c1
        try clear c2
        try clear p2
        try clear c3
        try clear c4
        try clear c5
        try clear p6
        try clear c7
        try clear c18
        try clear c21
        try clear c22
        try clear c26
        try clear c28
        try clear hcz11_0
        try clear hcz11_1
        try clear hcz16_0
        try clear hcz16_1
        try clear hcz19_0
        try clear hcz19_1
        try clear hcz23_0
        try clear hcz23_1
        try clear hcz25_0
        try clear hcz25_1
        try clear hcz27_0
        try clear hcz27_1
        try clear hfz11_0
        try clear hfz11_1
        try clear hfz16_0
        try clear hfz16_1
        try clear hfz19_0
        try clear hfz19_1
        try clear hfz23_0
        try clear hfz23_1
        try clear hfz25_0
        try clear hfz25_1
        try clear hfz27_0
        try clear hfz27_1
        obtain ⟨kq, x25_7, rfl, HA, HJ7, HO_1199000, HO_1199001, HO_1205000, HO_1205001, BK1198, BK1204, HB⟩ := hcut
        cases kq with
        | zero => exact absurd HA.out (by simp [boscagelaw03_InnerMerges.j0])
        | succ kj7 =>
          have H := HA.out
          clear HA
          simp only [boscagelaw03_InnerMerges.j0] at H
          by_cases c29 : x25_7 = true
          · subst c29
            have H1 : ((boscagelaw03_Instead.f kj7 l0_0 l0_1 a1 (wrap64 (a1 + 2)) ([] : List Int) (([a2] : List Int))).bind fun bt1209 => ((inner_Inner_Merged.f kj7 l0_0 l0_1 a1 a2).bind fun bt1215 => ((boscagelaw03_Same.f kj7 bt1215.1 bt1215.2 bt1209.1 bt1209.2).bind fun t1221 => (some t1221)))) = some r := by rw [if_pos rfl] at H; exact H
            clear H
            have H := H1
            clear H1
            obtain ⟨y1206, hy1206⟩ : ∃ y_ : List Int, y_ = (([a2] : List Int)) := ⟨_, rfl⟩
            replace H : ((boscagelaw03_Instead.f kj7 l0_0 l0_1 a1 (wrap64 (a1 + 2)) ([] : List Int) y1206).bind fun bt1209 => ((inner_Inner_Merged.f kj7 l0_0 l0_1 a1 a2).bind fun bt1215 => ((boscagelaw03_Same.f kj7 bt1215.1 bt1215.2 bt1209.1 bt1209.2).bind fun t1221 => (some t1221)))) = some r := by first | (rw [hy1206]; with_reducible exact H) | (have H2_ := (Option.bind_some _ _).symm.trans H; rw [hy1206]; with_reducible exact H2_) | (have H2_ := (Option.bind_some _ _).symm.trans H; with_reducible exact H2_) | with_reducible exact H | (rw [hy1206]; exact H) | exact H
            have Ny1206 := Aside0.mk hy1206
            clear hy1206
            replace H := Option.bind_eq_some_iff.mp H
            obtain ⟨⟨t1209, t1212⟩, A300, H⟩ := H
            replace H : ((inner_Inner_Merged.f kj7 l0_0 l0_1 a1 a2).bind fun bt1215 => ((boscagelaw03_Same.f kj7 bt1215.1 bt1215.2 t1209 t1212).bind fun t1221 => (some t1221))) = some r := H
            have A30 := Aside0.mk A300
            clear A300
            replace H := Option.bind_eq_some_iff.mp H
            obtain ⟨⟨t1215, t1218⟩, A310, H⟩ := H
            replace H : ((boscagelaw03_Same.f kj7 t1215 t1218 t1209 t1212).bind fun t1221 => (some t1221)) = some r := H
            have A31 := Aside0.mk A310
            clear A310
            replace H := Option.bind_eq_some_iff.mp H
            obtain ⟨t1221, A320, H⟩ := H
            replace H : (some t1221) = some r := H
            have A32 := Aside0.mk A320
            clear A320
            obtain rfl := Option.some.inj H
            have hnb33 := NB1198_1204.out
            have hnc33 := NB1204_1198.out
            have hcz34_0 : wc.cell? ⟨gb1198, 0, none⟩ = some (.slice A0_0 l0_0.length c0_0) := (blk_cell BK1198.out 0).trans rfl
            have hcz34_1 : wc.cell? ⟨gb1198, 1, none⟩ = some (.slice A0_1 l0_1.length c0_1) := (blk_cell BK1198.out 1).trans rfl
            have hfz34_0 := blk_frozen BK1198.out 0
            have hfz34_1 := blk_frozen BK1198.out 1
            try go_wp2_with (first | ((with_reducible refine gate_dst (N := 31) rfl ?_); (try (refine gate_guard (by rfl) ?_; dsimp only)); refine Kd.R_lit (Kd.int .i64) _ 47 ?hg (N := 31) ?hd (xs := ([a2] : List Int)) (inner := [.int .i64 a2]) (ok := fun _ => True) (okp := fun _ => True) ?hr ?hp (fun _ hk => hk) trivial (Below.refl _ _) (Nat.le_refl _) (by simp) ?_; (case hd => rfl); (case hg => rfl); (case hr => first | (go_simp; done) | (go_simp; rfl)); (case hp => exact (Reps.one (show Kd.M (Kd.int .i64) _ _ _ a2 [.int .i64 a2] from rfl) (Reps.none _ _))); intro v1207 w35 ho36 hb hg_ hnew_; clear hg_ hnew_; (first | rw [← Ny1206.out] at ho36 | (simp only [Int.reduceToNat] at ho36; rw [← Ny1206.out] at ho36)); have n0_ := Aside0.mk (Kd.V_elder' (by (with_reducible repeat (first | apply Kd.V_alloc | apply Kd.V_drewN | apply Kd.V_drew)); exact HO_1199000.out) (Kd.R_base ho36) hb); have n1_ := Aside0.mk (Kd.V_elder' (by (with_reducible repeat (first | apply Kd.V_alloc | apply Kd.V_drewN | apply Kd.V_drew)); exact HO_1199001.out) (Kd.R_base ho36) hb); have n2_ := Aside0.mk (Kd.V_elder' (by (with_reducible repeat (first | apply Kd.V_alloc | apply Kd.V_drewN | apply Kd.V_drew)); exact HO_1205000.out) (Kd.R_base ho36) hb); have n3_ := Aside0.mk (Kd.V_elder' (by (with_reducible repeat (first | apply Kd.V_alloc | apply Kd.V_drewN | apply Kd.V_drew)); exact HO_1205001.out) (Kd.R_base ho36) hb); have n4_ := Aside0.mk (Kd.R_lower (Kd.R_newM (M := fun k_ => (w.heap.size ≤ k_)) ho36 (below_size (by repeat (first | (with_reducible first | exact HB.out | apply below_alloc | apply pw_below_drewN | apply below_drew1 | refine below_set ?_ GE1198.out | refine below_set ?_ GE1204.out) | exact HB.out))) (fun k_ h_ => h_)) (below_size (by repeat (first | (with_reducible first | exact HB.out | apply below_alloc | apply pw_below_drewN | apply below_drew1 | refine below_set ?_ GE1198.out | refine below_set ?_ GE1204.out) | exact HB.out)))); have n5_ := Aside0.mk (blk_below (g := gb1198) (o := .cells #[.slice A0_0 l0_0.length c0_0, .slice A0_1 l0_1.length c0_1] 26 (0, 0)) (by (with_reducible repeat (first | refine blk_drewN ?_ _ | refine blk_drew ?_ | refine blk_alloc ?_ _)); exact BK1198.out) hb); have n6_ := Aside0.mk (blk_below (g := gb1204) (o := .cells #[.slice A0_0 l0_0.length c0_0, .slice A0_1 l0_1.length c0_1] 26 (0, 0)) (by (with_reducible repeat (first | refine blk_drewN ?_ _ | refine blk_drew ?_ | refine blk_alloc ?_ _)); exact BK1204.out) hb); have n7_ := Aside0.mk (below_step (by repeat (first | (with_reducible first | exact HB.out | apply below_alloc | apply pw_below_drewN | apply below_drew1 | refine below_set ?_ GE1198.out | refine below_set ?_ GE1204.out) | exact HB.out)) hb); clear HO_1199000; clear HO_1199001; clear HO_1205000; clear HO_1205001; clear BK1198; clear BK1204; clear HB; have HO_1199000 := n0_; have HO_1199001 := n1_; have HO_1205000 := n2_; have HO_1205001 := n3_; have HO1208 := n4_; have BK1198 := n5_; have BK1204 := n6_; have HB := n7_; clear n0_ n1_ n2_ n3_ n4_ n5_ n6_ n7_; clear hb ho36; obtain ⟨Ao37, co37, eo37⟩ := Kd.R_slice HO1208.out; subst eo37) | ((with_reducible refine gate_callee (f := 55) rfl ?_); refine goesL_ (some 33) rfl rfl Try.func55 (by kernel_rfl) rfl #[.agg #[.slice A0_0 l0_0.length c0_0, .slice A0_1 l0_1.length c0_1], .int .i64 a1, .int .i64 (wrap64 (a1 + 2)), .agg #[.slice none 0 0, .slice Ao37 y1206.length co37]] rfl (by (try simp only [List.map_toArray, List.map_cons, List.map_nil]); first | done | rfl | (simp only [List.length_drop, List.length_take]; rfl)) ?_; (refine (boscagelaw03_Instead.calls kj7 _ _ l0_0 _ _ l0_1 a1 (wrap64 (a1 + 2)) (fun k_ => False) _ _ ([] : List Int) (fun k_ => some k_ = (.slice Ao37 y1206.length co37 : Value).ownBlock) _ _ y1206 t1209 t1212 _ ?side1 ?side2 ?side3 ?side4 ?side5 ?side6 A30.out).mono ?_); (case side1 => repeat (first | exact (Kd.V_reads' HO_1199000.out).2.2 | (with_reducible refine Kd.C_alloc ?_ _) | (with_reducible refine Kd.C_drewN ?_ _) | (with_reducible refine Kd.C_drew ?_))); (case side2 => exact (Kd.V_reads' HO_1199000.out).2.1); (case side3 => repeat (first | exact (Kd.V_reads' HO_1199001.out).2.2 | (with_reducible refine Kd.C_alloc ?_ _) | (with_reducible refine Kd.C_drewN ?_ _) | (with_reducible refine Kd.C_drew ?_))); (case side4 => exact (Kd.V_reads' HO_1199001.out).2.1); (case side5 => exact Kd.V_nil _ _ _ _ _); (case side6 => exact Kd.R_V (Kd.R_tight rfl (Kd.R_types (Kd.R_types (HO1208.out) BK1198.out (by decide)) BK1204.out (by decide)))); rintro e w38 ⟨v1210, v1213, rfl, ho0, ho1, hb⟩; refine ⟨_, rfl, ?_⟩; have n0_ := Aside0.mk (Kd.V_mono (Kd.V_told (Kd.V_told (Kd.V_old (by (with_reducible repeat (first | apply Kd.V_alloc | apply Kd.V_drewN | apply Kd.V_drew)); exact HO_1199000.out) hb) (Kd.R_base ho0)) (Kd.R_base ho1)) (fun _ h_ => h_.1)); have n1_ := Aside0.mk (Kd.V_mono (Kd.V_told (Kd.V_told (Kd.V_old (by (with_reducible repeat (first | apply Kd.V_alloc | apply Kd.V_drewN | apply Kd.V_drew)); exact HO_1199001.out) hb) (Kd.R_base ho0)) (Kd.R_base ho1)) (fun _ h_ => h_.1)); have n2_ := Aside0.mk (Kd.V_mono (Kd.V_told (Kd.V_told (Kd.V_old (by (with_reducible repeat (first | apply Kd.V_alloc | apply Kd.V_drewN | apply Kd.V_drew)); exact HO_1205000.out) hb) (Kd.R_base ho0)) (Kd.R_base ho1)) (fun _ h_ => h_.1)); have n3_ := Aside0.mk (Kd.V_mono (Kd.V_told (Kd.V_told (Kd.V_old (by (with_reducible repeat (first | apply Kd.V_alloc | apply Kd.V_drewN | apply Kd.V_drew)); exact HO_1205001.out) hb) (Kd.R_base ho0)) (Kd.R_base ho1)) (fun _ h_ => h_.1)); have n4_ := Aside0.mk (Kd.R_elder' (by (with_reducible repeat (first | apply Kd.R_alloc | apply Kd.R_drewN | apply Kd.R_drew)); exact HO1208.out) (Kd.R_base ho1) hb); have n5_ := Aside0.mk (Kd.R_lower (Kd.R_newM (M := fun k_ => (w.heap.size ≤ k_)) (Kd.R_mono (ok' := fun k_ => True) ho0 (fun _ hk_ => trivial)) (below_size (by repeat (first | (with_reducible first | exact HB.out | apply below_alloc | apply pw_below_drewN | apply below_drew1 | refine below_set ?_ GE1198.out | refine below_set ?_ GE1204.out) | exact HB.out))) (fun k_ h_ => h_)) (below_size (by repeat (first | (with_reducible first | exact HB.out | apply below_alloc | apply pw_below_drewN | apply below_drew1 | refine below_set ?_ GE1198.out | refine below_set ?_ GE1204.out) | exact HB.out)))); have n6_ := Aside0.mk (Kd.R_lower (Kd.R_new' (Kd.R_newM (M := fun k_ => (w.heap.size ≤ k_)) (Kd.R_mono (ok' := fun k_ => True) ho1 (fun _ hk_ => trivial)) (below_size (by repeat (first | (with_reducible first | exact HB.out | apply below_alloc | apply pw_below_drewN | apply below_drew1 | refine below_set ?_ GE1198.out | refine below_set ?_ GE1204.out) | exact HB.out))) (fun k_ h_ => h_)) (Kd.R_lt (by (with_reducible repeat (first | apply Kd.R_alloc | apply Kd.R_drewN | apply Kd.R_drew)); exact HO1208.out))) (below_size (by repeat (first | (with_reducible first | exact HB.out | apply below_alloc | apply pw_below_drewN | apply below_drew1 | refine below_set ?_ GE1198.out | refine below_set ?_ GE1204.out) | exact HB.out)))); have n7_ := Aside0.mk (blk_below (g := gb1198) (o := .cells #[.slice A0_0 l0_0.length c0_0, .slice A0_1 l0_1.length c0_1] 26 (0, 0)) (by (with_reducible repeat (first | refine blk_drewN ?_ _ | refine blk_drew ?_ | refine blk_alloc ?_ _)); exact BK1198.out) hb); have n8_ := Aside0.mk (blk_below (g := gb1204) (o := .cells #[.slice A0_0 l0_0.length c0_0, .slice A0_1 l0_1.length c0_1] 26 (0, 0)) (by (with_reducible repeat (first | refine blk_drewN ?_ _ | refine blk_drew ?_ | refine blk_alloc ?_ _)); exact BK1204.out) hb); have n9_ := Aside0.mk (below_step (by repeat (first | (with_reducible first | exact HB.out | apply below_alloc | apply pw_below_drewN | apply below_drew1 | refine below_set ?_ GE1198.out | refine below_set ?_ GE1204.out) | exact HB.out)) hb); clear HO_1199000; clear HO_1199001; clear HO_1205000; clear HO_1205001; clear HO1208; clear BK1198; clear BK1204; clear HB; have HO_1199000 := n0_; have HO_1199001 := n1_; have HO_1205000 := n2_; have HO_1205001 := n3_; have HO1208 := n4_; have HO1211 := n5_; have HO1214 := n6_; have BK1198 := n7_; have BK1204 := n8_; have HB := n9_; clear n0_ n1_ n2_ n3_ n4_ n5_ n6_ n7_ n8_ n9_; (try clear hb); (try clear hb2); (try clear hk); (try clear hi); (try clear ho0); (try clear ho1); obtain ⟨Ao39, co39, eo39⟩ := Kd.R_slice HO1211.out; subst eo39; have hcz40_0 : w38.cell? ⟨gb1204, 0, none⟩ = some (.slice A0_0 l0_0.length c0_0) := (blk_cell BK1204.out 0).trans rfl; have hcz40_1 : w38.cell? ⟨gb1204, 1, none⟩ = some (.slice A0_1 l0_1.length c0_1) := (blk_cell BK1204.out 1).trans rfl; have hfz40_0 := blk_frozen BK1204.out 0; have hfz40_1 := blk_frozen BK1204.out 1; obtain ⟨Ao41, co41, eo41⟩ := Kd.R_slice HO1214.out; subst eo41))
            have n0_ : Aside0 (Kd.V (Kd.int .i64) 2 ((w38.setCell ⟨gb1204, 0, none⟩ (.slice Ao39 t1209.length co39)).setCell ⟨gb1204, 1, none⟩ (.slice Ao41 t1212.length co41)) w.heap.size (fun k_ => ((P0_0_ k_ ∨ P0_1_ k_) ∨ w.heap.size ≤ k_) ∧ some k_ ≠ (.slice Ao37 y1206.length co37 : Value).ownBlock ∧ some k_ ≠ (.slice Ao39 t1209.length co39 : Value).ownBlock ∧ some k_ ≠ (.slice Ao41 t1212.length co41 : Value).ownBlock ∧ k_ ≠ gb1198 ∧ k_ ≠ gb1204) (.slice A0_0 l0_0.length c0_0) l0_0) := ⟨by (with_reducible repeat (first | apply Kd.V_alloc | apply Kd.V_drewN | apply Kd.V_drew)); exact Kd.V_mono (Kd.V_far (p := ⟨gb1204, 1, none⟩) (Kd.V_far (p := ⟨gb1204, 0, none⟩) (Kd.V_mono HO_1199000.out (fun k_ hk => (⟨hk, hk.1.1.1.2.2⟩ : _ ∧ k_ ≠ gb1204))) (fun _ hk => hk.2) (.slice Ao39 t1209.length co39)) (fun _ hk => hk.2) (.slice Ao41 t1212.length co41)) (fun _ hk => ⟨hk.1.1.1.1.1, ⟨hk.1.1.1.2, ⟨hk.1.1.2, ⟨hk.1.2, ⟨hk.1.1.1.1.2.1, hk.1.1.1.1.2.2⟩⟩⟩⟩⟩)⟩
            have n1_ : Aside0 (Kd.V (Kd.int .i64) 47 ((w38.setCell ⟨gb1204, 0, none⟩ (.slice Ao39 t1209.length co39)).setCell ⟨gb1204, 1, none⟩ (.slice Ao41 t1212.length co41)) w.heap.size (fun k_ => ((P0_0_ k_ ∨ P0_1_ k_) ∨ w.heap.size ≤ k_) ∧ some k_ ≠ (.slice Ao37 y1206.length co37 : Value).ownBlock ∧ some k_ ≠ (.slice Ao39 t1209.length co39 : Value).ownBlock ∧ some k_ ≠ (.slice Ao41 t1212.length co41 : Value).ownBlock ∧ k_ ≠ gb1198 ∧ k_ ≠ gb1204) (.slice A0_1 l0_1.length c0_1) l0_1) := ⟨by (with_reducible repeat (first | apply Kd.V_alloc | apply Kd.V_drewN | apply Kd.V_drew)); exact Kd.V_mono (Kd.V_far (p := ⟨gb1204, 1, none⟩) (Kd.V_far (p := ⟨gb1204, 0, none⟩) (Kd.V_mono HO_1199001.out (fun k_ hk => (⟨hk, hk.1.1.1.2.2⟩ : _ ∧ k_ ≠ gb1204))) (fun _ hk => hk.2) (.slice Ao39 t1209.length co39)) (fun _ hk => hk.2) (.slice Ao41 t1212.length co41)) (fun _ hk => ⟨hk.1.1.1.1.1, ⟨hk.1.1.1.2, ⟨hk.1.1.2, ⟨hk.1.2, ⟨hk.1.1.1.1.2.1, hk.1.1.1.1.2.2⟩⟩⟩⟩⟩)⟩
            have n2_ : Aside0 (Kd.V (Kd.int .i64) 2 ((w38.setCell ⟨gb1204, 0, none⟩ (.slice Ao39 t1209.length co39)).setCell ⟨gb1204, 1, none⟩ (.slice Ao41 t1212.length co41)) w.heap.size (fun k_ => ((P0_0_ k_ ∨ P0_1_ k_) ∨ w.heap.size ≤ k_) ∧ some k_ ≠ (.slice Ao37 y1206.length co37 : Value).ownBlock ∧ some k_ ≠ (.slice Ao39 t1209.length co39 : Value).ownBlock ∧ some k_ ≠ (.slice Ao41 t1212.length co41 : Value).ownBlock ∧ k_ ≠ gb1198 ∧ k_ ≠ gb1204) (.slice A0_0 l0_0.length c0_0) l0_0) := ⟨by (with_reducible repeat (first | apply Kd.V_alloc | apply Kd.V_drewN | apply Kd.V_drew)); exact Kd.V_mono (Kd.V_far (p := ⟨gb1204, 1, none⟩) (Kd.V_far (p := ⟨gb1204, 0, none⟩) (Kd.V_mono HO_1205000.out (fun k_ hk => (⟨hk, hk.1.1.1.2.2⟩ : _ ∧ k_ ≠ gb1204))) (fun _ hk => hk.2) (.slice Ao39 t1209.length co39)) (fun _ hk => hk.2) (.slice Ao41 t1212.length co41)) (fun _ hk => ⟨hk.1.1.1.1.1, ⟨hk.1.1.1.2, ⟨hk.1.1.2, ⟨hk.1.2, ⟨hk.1.1.1.1.2.1, hk.1.1.1.1.2.2⟩⟩⟩⟩⟩)⟩
            have n3_ : Aside0 (Kd.V (Kd.int .i64) 47 ((w38.setCell ⟨gb1204, 0, none⟩ (.slice Ao39 t1209.length co39)).setCell ⟨gb1204, 1, none⟩ (.slice Ao41 t1212.length co41)) w.heap.size (fun k_ => ((P0_0_ k_ ∨ P0_1_ k_) ∨ w.heap.size ≤ k_) ∧ some k_ ≠ (.slice Ao37 y1206.length co37 : Value).ownBlock ∧ some k_ ≠ (.slice Ao39 t1209.length co39 : Value).ownBlock ∧ some k_ ≠ (.slice Ao41 t1212.length co41 : Value).ownBlock ∧ k_ ≠ gb1198 ∧ k_ ≠ gb1204) (.slice A0_1 l0_1.length c0_1) l0_1) := ⟨by (with_reducible repeat (first | apply Kd.V_alloc | apply Kd.V_drewN | apply Kd.V_drew)); exact Kd.V_mono (Kd.V_far (p := ⟨gb1204, 1, none⟩) (Kd.V_far (p := ⟨gb1204, 0, none⟩) (Kd.V_mono HO_1205001.out (fun k_ hk => (⟨hk, hk.1.1.1.2.2⟩ : _ ∧ k_ ≠ gb1204))) (fun _ hk => hk.2) (.slice Ao39 t1209.length co39)) (fun _ hk => hk.2) (.slice Ao41 t1212.length co41)) (fun _ hk => ⟨hk.1.1.1.1.1, ⟨hk.1.1.1.2, ⟨hk.1.1.2, ⟨hk.1.2, ⟨hk.1.1.1.1.2.1, hk.1.1.1.1.2.2⟩⟩⟩⟩⟩)⟩
            have n4_ : Aside0 (Kd.R (Kd.int .i64) 47 ((w38.setCell ⟨gb1204, 0, none⟩ (.slice Ao39 t1209.length co39)).setCell ⟨gb1204, 1, none⟩ (.slice Ao41 t1212.length co41)) w.heap.size (fun k_ => (w.heap.size ≤ k_) ∧ some k_ ≠ (.slice Ao41 t1212.length co41 : Value).ownBlock) (.slice Ao37 y1206.length co37) y1206) := ⟨by (with_reducible repeat (first | apply Kd.R_alloc | apply Kd.R_drewN | apply Kd.R_drew)); exact Kd.R_mono (Kd.R_far (p := ⟨gb1204, 1, none⟩) (Kd.R_far (p := ⟨gb1204, 0, none⟩) (Kd.R_types HO1208.out BK1204.out (by decide)) (fun _ hk => hk.2) (.slice Ao39 t1209.length co39)) (fun _ hk => hk.2) (.slice Ao41 t1212.length co41)) (fun _ hk => ⟨hk.1.1.1, hk.1.2⟩)⟩
            have n5_ : Aside0 (Kd.R (Kd.int .i64) 2 ((w38.setCell ⟨gb1204, 0, none⟩ (.slice Ao39 t1209.length co39)).setCell ⟨gb1204, 1, none⟩ (.slice Ao41 t1212.length co41)) w.heap.size (fun k_ => (w.heap.size ≤ k_)) (.slice Ao39 t1209.length co39) t1209) := ⟨by (with_reducible repeat (first | apply Kd.R_alloc | apply Kd.R_drewN | apply Kd.R_drew)); exact Kd.R_mono (Kd.R_far (p := ⟨gb1204, 1, none⟩) (Kd.R_far (p := ⟨gb1204, 0, none⟩) (Kd.R_types HO1211.out BK1204.out (by decide)) (fun _ hk => hk.2) (.slice Ao39 t1209.length co39)) (fun _ hk => hk.2) (.slice Ao41 t1212.length co41)) (fun _ hk => hk.1.1)⟩
            have n6_ : Aside0 (Kd.R (Kd.int .i64) 47 ((w38.setCell ⟨gb1204, 0, none⟩ (.slice Ao39 t1209.length co39)).setCell ⟨gb1204, 1, none⟩ (.slice Ao41 t1212.length co41)) w.heap.size (fun k_ => (w.heap.size ≤ k_) ∧ some k_ ≠ (.slice Ao37 y1206.length co37 : Value).ownBlock) (.slice Ao41 t1212.length co41) t1212) := ⟨by (with_reducible repeat (first | apply Kd.R_alloc | apply Kd.R_drewN | apply Kd.R_drew)); exact Kd.R_mono (Kd.R_far (p := ⟨gb1204, 1, none⟩) (Kd.R_far (p := ⟨gb1204, 0, none⟩) (Kd.R_types HO1214.out BK1204.out (by decide)) (fun _ hk => hk.2) (.slice Ao39 t1209.length co39)) (fun _ hk => hk.2) (.slice Ao41 t1212.length co41)) (fun _ hk => ⟨hk.1.1.1, hk.1.2⟩)⟩
            have n7_ : Aside0 (((w38.setCell ⟨gb1204, 0, none⟩ (.slice Ao39 t1209.length co39)).setCell ⟨gb1204, 1, none⟩ (.slice Ao41 t1212.length co41)).heap[gb1198]? = some (.cells #[.slice A0_0 l0_0.length c0_0, .slice A0_1 l0_1.length c0_1] 26 (0, 0))) := ⟨by (with_reducible repeat (first | refine blk_drewN ?_ _ | refine blk_drew ?_ | refine blk_alloc ?_ _)); refine blk_far ?_ NB1198_1204.out _; (with_reducible repeat (first | refine blk_drewN ?_ _ | refine blk_drew ?_ | refine blk_alloc ?_ _)); refine blk_far ?_ NB1198_1204.out _; (with_reducible repeat (first | refine blk_drewN ?_ _ | refine blk_drew ?_ | refine blk_alloc ?_ _)); exact BK1198.out⟩
            have n8_ : Aside0 (((w38.setCell ⟨gb1204, 0, none⟩ (.slice Ao39 t1209.length co39)).setCell ⟨gb1204, 1, none⟩ (.slice Ao41 t1212.length co41)).heap[gb1204]? = some (.cells #[.slice Ao39 t1209.length co39, .slice Ao41 t1212.length co41] 26 (0, 0))) := ⟨by (with_reducible repeat (first | refine blk_drewN ?_ _ | refine blk_drew ?_ | refine blk_alloc ?_ _)); refine blk_put (cs := #[.slice Ao39 t1209.length co39, .slice A0_1 l0_1.length c0_1]) ?_ 1 _ rfl; (with_reducible repeat (first | refine blk_drewN ?_ _ | refine blk_drew ?_ | refine blk_alloc ?_ _)); refine blk_put (cs := #[.slice A0_0 l0_0.length c0_0, .slice A0_1 l0_1.length c0_1]) ?_ 0 _ rfl; (with_reducible repeat (first | refine blk_drewN ?_ _ | refine blk_drew ?_ | refine blk_alloc ?_ _)); exact BK1204.out⟩
            have n9_ : Aside0 (Below w.heap.size w ((w38.setCell ⟨gb1204, 0, none⟩ (.slice Ao39 t1209.length co39)).setCell ⟨gb1204, 1, none⟩ (.slice Ao41 t1212.length co41))) := ⟨by repeat (first | (with_reducible first | exact HB.out | apply below_alloc | apply pw_below_drewN | apply below_drew1 | refine below_set ?_ GE1198.out | refine below_set ?_ GE1204.out) | exact HB.out)⟩
            (try clear HO_1199000)
            (try clear HO_1199001)
            (try clear HO_1205000)
            (try clear HO_1205001)
            (try clear HO1208)
            (try clear HO1211)
            (try clear HO1214)
            (try clear BK1198)
            (try clear BK1204)
            (try clear HB)
            generalize ((w38.setCell ⟨gb1204, 0, none⟩ (.slice Ao39 t1209.length co39)).setCell ⟨gb1204, 1, none⟩ (.slice Ao41 t1212.length co41)) = w42 at n0_ n1_ n2_ n3_ n4_ n5_ n6_ n7_ n8_ n9_ ⊢
            have HO_1199000 := n0_
            have HO_1199001 := n1_
            have HO_1205000 := n2_
            have HO_1205001 := n3_
            have HO1208 := n4_
            have HO1211 := n5_
            have HO1214 := n6_
            have BK1198 := n7_
            have BK1204 := n8_
            have HB := n9_
            clear n0_ n1_ n2_ n3_ n4_ n5_ n6_ n7_ n8_ n9_
            have n0_ := Aside0.mk (Kd.V_drew HO_1199000.out)
            have n1_ := Aside0.mk (Kd.V_drew HO_1199001.out)
            have n2_ := Aside0.mk (Kd.V_drew HO_1205000.out)
            have n3_ := Aside0.mk (Kd.V_drew HO_1205001.out)
            have n4_ := Aside0.mk (Kd.R_drew HO1208.out)
            have n5_ := Aside0.mk (Kd.R_drew HO1211.out)
            have n6_ := Aside0.mk (Kd.R_drew HO1214.out)
            have n7_ := Aside0.mk (blk_drew BK1198.out)
            have n8_ := Aside0.mk (blk_drew BK1204.out)
            have n9_ := Aside0.mk (below_drew1 HB.out)
            clear HO_1199000
            clear HO_1199001
            clear HO_1205000
            clear HO_1205001
            clear HO1208
            clear HO1211
            clear HO1214
            clear BK1198
            clear BK1204
            clear HB
            have HO_1199000 := n0_
            have HO_1199001 := n1_
            have HO_1205000 := n2_
            have HO_1205001 := n3_
            have HO1208 := n4_
            have HO1211 := n5_
            have HO1214 := n6_
            have BK1198 := n7_
            have BK1204 := n8_
            have HB := n9_
            clear n0_ n1_ n2_ n3_ n4_ n5_ n6_ n7_ n8_ n9_
            refine start_ (n := 7) (S := fun w' => w'.cell? ⟨gb1198, 0, none⟩ = some (.slice A0_0 l0_0.length c0_0) ∧ w'.cell? ⟨gb1198, 1, none⟩ = some (.slice A0_1 l0_1.length c0_1) ∧ w'.cell? ⟨gb1204, 0, none⟩ = some (.slice Ao39 t1209.length co39) ∧ w'.cell? ⟨gb1204, 1, none⟩ = some (.slice Ao41 t1212.length co41)) (ds := []) #[false, false, false, false, false, false, false] (by kernel_rfl) rfl rfl ⟨(blk_cell BK1198.out 0).trans rfl, (blk_cell BK1198.out 1).trans rfl, (blk_cell BK1204.out 0).trans rfl, (blk_cell BK1204.out 1).trans rfl⟩ (fun hHeld => ?_)
            generalize w42.drew = w43 at HO_1199000 HO_1199001 HO_1205000 HO_1205001 HO1208 HO1211 HO1214 BK1198 BK1204 HB hHeld ⊢
            refine pure_ (i := 1) (N := some 35) (v := ?_) (a' := ?_) #[false, true, false, false, false, false, false] rfl rfl (by kernel_rfl) (fun _ _ _ h => h) (Or.inl ⟨by rfl, ?_⟩) ?_ ?_
            rotate_left
            · intro w'
              go_simp
              with_reducible rfl
            rotate_left
            · simp only [Act.put, List.setIfInBounds_toArray, List.set_cons_zero, List.set_cons_succ, i64_w, i32_w]
              rfl
            refine pure_ (i := 2) (N := some 36) (v := ?_) (a' := ?_) #[false, true, true, false, false, false, false] rfl rfl (by kernel_rfl) (fun _ _ _ h => h) (Or.inl ⟨by rfl, ?_⟩) ?_ ?_
            rotate_left
            · intro w'
              go_simp
              with_reducible rfl
            rotate_left
            · simp only [Act.put, List.setIfInBounds_toArray, List.set_cons_zero, List.set_cons_succ, i64_w, i32_w]
              rfl
            refine take_ (i := 0) (N := some 34) (v := ?_) (a' := ?_) #[true, true, true, false, false, false, false] rfl rfl (by kernel_rfl) (fun _ _ _ h => h) (Or.inl ⟨by rfl, ?_⟩) hHeld ?_ ?_
            rotate_left
            · rintro w' ⟨s0, s1, s2, s3⟩
              go_simp
              with_reducible rfl
            rotate_left
            · simp only [Act.put, List.setIfInBounds_toArray, List.set_cons_zero, List.set_cons_succ, i64_w, i32_w]
              rfl
            refine take_ (i := 4) (N := some 38) (v := ?_) (a' := ?_) #[true, true, true, false, true, false, false] rfl rfl (by kernel_rfl) (fun _ _ _ h => h) (Or.inl ⟨by rfl, ?_⟩) hHeld ?_ ?_
            rotate_left
            · rintro w' ⟨s0, s1, s2, s3⟩
              go_simp
              with_reducible rfl
            rotate_left
            · simp only [Act.put, List.setIfInBounds_toArray, List.set_cons_zero, List.set_cons_succ, i64_w, i32_w]
              rfl
            refine one_ (i := 3) (N := some 37) #[true, true, true, true, true, false, false] rfl rfl (by kernel_rfl) (by decide) (fun K hK => ?_)
            refine goes_ Try.func82 (by kernel_rfl) rfl #[.agg #[.slice A0_0 l0_0.length c0_0, .slice A0_1 l0_1.length c0_1], .int .i64 a1, .int .i64 a2] (by rfl) rfl rfl (by (try simp only [List.map_toArray, List.map_cons, List.map_nil]); first | done | rfl | (simp only [List.length_drop, List.length_take]; rfl)) ?_
            with_reducible refine (inner_Inner_Merged.calls kj7 _ _ l0_0 _ _ l0_1 a1 a2 t1215 t1218 _ ?side1 ?side2 ?side3 ?side4 A31.out).mono ?_
            (case side1 => repeat (first | exact (Kd.V_reads' HO_1199000.out).2.2 | (with_reducible refine Kd.C_alloc ?_ _) | (with_reducible refine Kd.C_drewN ?_ _) | (with_reducible refine Kd.C_drew ?_)))
            (case side2 => exact (Kd.V_reads' HO_1199000.out).2.1)
            (case side3 => repeat (first | exact (Kd.V_reads' HO_1199001.out).2.2 | (with_reducible refine Kd.C_alloc ?_ _) | (with_reducible refine Kd.C_drewN ?_ _) | (with_reducible refine Kd.C_drew ?_)))
            (case side4 => exact (Kd.V_reads' HO_1199001.out).2.1)
            rintro e w44 ⟨v1216, v1219, rfl, ho0, ho1, hb⟩
            refine ⟨_, rfl, ?_⟩
            have n0_ := Aside0.mk (Kd.V_mono (Kd.V_told (Kd.V_told (Kd.V_old (by (with_reducible repeat (first | apply Kd.V_alloc | apply Kd.V_drewN | apply Kd.V_drew)); exact HO_1199000.out) hb) (Kd.R_base ho0)) (Kd.R_base ho1)) (fun _ h_ => h_.1))
            have n1_ := Aside0.mk (Kd.V_mono (Kd.V_told (Kd.V_told (Kd.V_old (by (with_reducible repeat (first | apply Kd.V_alloc | apply Kd.V_drewN | apply Kd.V_drew)); exact HO_1199001.out) hb) (Kd.R_base ho0)) (Kd.R_base ho1)) (fun _ h_ => h_.1))
            have n2_ := Aside0.mk (Kd.V_mono (Kd.V_told (Kd.V_told (Kd.V_old (by (with_reducible repeat (first | apply Kd.V_alloc | apply Kd.V_drewN | apply Kd.V_drew)); exact HO_1205000.out) hb) (Kd.R_base ho0)) (Kd.R_base ho1)) (fun _ h_ => h_.1))
            have n3_ := Aside0.mk (Kd.V_mono (Kd.V_told (Kd.V_told (Kd.V_old (by (with_reducible repeat (first | apply Kd.V_alloc | apply Kd.V_drewN | apply Kd.V_drew)); exact HO_1205001.out) hb) (Kd.R_base ho0)) (Kd.R_base ho1)) (fun _ h_ => h_.1))
            have n4_ := Aside0.mk (Kd.R_elder' (by (with_reducible repeat (first | apply Kd.R_alloc | apply Kd.R_drewN | apply Kd.R_drew)); exact HO1208.out) (Kd.R_base ho1) hb)
            have n5_ := Aside0.mk (Kd.R_elder' (by (with_reducible repeat (first | apply Kd.R_alloc | apply Kd.R_drewN | apply Kd.R_drew)); exact HO1211.out) (Kd.R_base ho0) hb)
            have n6_ := Aside0.mk (Kd.R_elder' (by (with_reducible repeat (first | apply Kd.R_alloc | apply Kd.R_drewN | apply Kd.R_drew)); exact HO1214.out) (Kd.R_base ho1) hb)
            have n7_ := Aside0.mk (Kd.R_lower (Kd.R_new' (Kd.R_newM (M := fun k_ => (w.heap.size ≤ k_)) ho0 (below_size (by repeat (first | (with_reducible first | exact HB.out | apply below_alloc | apply pw_below_drewN | apply below_drew1 | refine below_set ?_ GE1198.out | refine below_set ?_ GE1204.out) | exact HB.out))) (fun k_ h_ => h_)) (Kd.R_lt (by (with_reducible repeat (first | apply Kd.R_alloc | apply Kd.R_drewN | apply Kd.R_drew)); exact HO1211.out))) (below_size (by repeat (first | (with_reducible first | exact HB.out | apply below_alloc | apply pw_below_drewN | apply below_drew1 | refine below_set ?_ GE1198.out | refine below_set ?_ GE1204.out) | exact HB.out))))
            have n8_ := Aside0.mk (Kd.R_lower (Kd.R_new' (Kd.R_new' (Kd.R_newM (M := fun k_ => (w.heap.size ≤ k_)) ho1 (below_size (by repeat (first | (with_reducible first | exact HB.out | apply below_alloc | apply pw_below_drewN | apply below_drew1 | refine below_set ?_ GE1198.out | refine below_set ?_ GE1204.out) | exact HB.out))) (fun k_ h_ => h_)) (Kd.R_lt (by (with_reducible repeat (first | apply Kd.R_alloc | apply Kd.R_drewN | apply Kd.R_drew)); exact HO1208.out))) (Kd.R_lt (by (with_reducible repeat (first | apply Kd.R_alloc | apply Kd.R_drewN | apply Kd.R_drew)); exact HO1214.out))) (below_size (by repeat (first | (with_reducible first | exact HB.out | apply below_alloc | apply pw_below_drewN | apply below_drew1 | refine below_set ?_ GE1198.out | refine below_set ?_ GE1204.out) | exact HB.out))))
            have n9_ := Aside0.mk (blk_below (g := gb1198) (o := .cells #[.slice A0_0 l0_0.length c0_0, .slice A0_1 l0_1.length c0_1] 26 (0, 0)) (by (with_reducible repeat (first | refine blk_drewN ?_ _ | refine blk_drew ?_ | refine blk_alloc ?_ _)); exact BK1198.out) hb)
            have n10_ := Aside0.mk (blk_below (g := gb1204) (o := .cells #[.slice Ao39 t1209.length co39, .slice Ao41 t1212.length co41] 26 (0, 0)) (by (with_reducible repeat (first | refine blk_drewN ?_ _ | refine blk_drew ?_ | refine blk_alloc ?_ _)); exact BK1204.out) hb)
            have n11_ := Aside0.mk (below_step (by repeat (first | (with_reducible first | exact HB.out | apply below_alloc | apply pw_below_drewN | apply below_drew1 | refine below_set ?_ GE1198.out | refine below_set ?_ GE1204.out) | exact HB.out)) hb)
            clear HO_1199000
            clear HO_1199001
            clear HO_1205000
            clear HO_1205001
            clear HO1208
            clear HO1211
            clear HO1214
            clear BK1198
            clear BK1204
            clear HB
            have HO_1199000 := n0_
            have HO_1199001 := n1_
            have HO_1205000 := n2_
            have HO_1205001 := n3_
            have HO1208 := n4_
            have HO1211 := n5_
            have HO1214 := n6_
            have HO1217 := n7_
            have HO1220 := n8_
            have BK1198 := n9_
            have BK1204 := n10_
            have HB := n11_
            clear n0_ n1_ n2_ n3_ n4_ n5_ n6_ n7_ n8_ n9_ n10_ n11_
            (try clear hb)
            (try clear hb2)
            (try clear hk)
            (try clear hi)
            (try clear ho0)
            (try clear ho1)
            obtain ⟨Ao45, co45, eo45⟩ := Kd.R_slice HO1217.out
            (first | subst eo45 | (injection eo45 with f1_ f2_ f3_; have f4_ := f1_.symm; have f5_ := f3_.symm; clear f1_ f2_ f3_; subst f4_; subst f5_))
            obtain ⟨Ao46, co46, eo46⟩ := Kd.R_slice HO1220.out
            (first | subst eo46 | (injection eo46 with f1_ f2_ f3_; have f4_ := f1_.symm; have f5_ := f3_.symm; clear f1_ f2_ f3_; subst f4_; subst f5_))
            refine hK.out _ _ ⟨(blk_cell BK1198.out 0).trans rfl, (blk_cell BK1198.out 1).trans rfl, (blk_cell BK1204.out 0).trans rfl, (blk_cell BK1204.out 1).trans rfl⟩ (fun hHeld => ?_)
            clear hK K
            refine norm_ (a' := ?_) ?_ ?_
            rotate_left
            · show Act.put _ (some 37) _ = _
              simp only [Act.put, List.setIfInBounds_toArray, List.set_cons_zero, List.set_cons_succ, i64_w, i32_w]
              rfl
            refine one_ (i := 5) (N := some 39) #[true, true, true, true, true, true, false] rfl rfl (by kernel_rfl) (by decide) (fun K hK => ?_)
            refine goes_ Try.func51 (by kernel_rfl) rfl #[.agg #[.slice Ao45 t1215.length co45, .slice Ao46 t1218.length co46], .agg #[.slice Ao39 t1209.length co39, .slice Ao41 t1212.length co41]] (by rfl) rfl rfl (by (try simp only [List.map_toArray, List.map_cons, List.map_nil]); first | done | rfl | (simp only [List.length_drop, List.length_take]; rfl)) ?_
            with_reducible refine (boscagelaw03_Same.calls kj7 _ _ t1215 _ _ t1218 _ _ t1209 _ _ t1212 t1221 _ ?side1 ?side2 ?side3 ?side4 ?side5 ?side6 ?side7 ?side8 A32.out).mono ?_
            (case side1 => repeat (first | exact (Kd.R_reads' HO1217.out).2.2 | (with_reducible refine Kd.C_alloc ?_ _) | (with_reducible refine Kd.C_drewN ?_ _) | (with_reducible refine Kd.C_drew ?_)))
            (case side2 => exact (Kd.R_reads' HO1217.out).2.1)
            (case side3 => repeat (first | exact (Kd.R_reads' HO1220.out).2.2 | (with_reducible refine Kd.C_alloc ?_ _) | (with_reducible refine Kd.C_drewN ?_ _) | (with_reducible refine Kd.C_drew ?_)))
            (case side4 => exact (Kd.R_reads' HO1220.out).2.1)
            (case side5 => repeat (first | exact (Kd.R_reads' HO1211.out).2.2 | (with_reducible refine Kd.C_alloc ?_ _) | (with_reducible refine Kd.C_drewN ?_ _) | (with_reducible refine Kd.C_drew ?_)))
            (case side6 => exact (Kd.R_reads' HO1211.out).2.1)
            (case side7 => repeat (first | exact (Kd.R_reads' HO1214.out).2.2 | (with_reducible refine Kd.C_alloc ?_ _) | (with_reducible refine Kd.C_drewN ?_ _) | (with_reducible refine Kd.C_drew ?_)))
            (case side8 => exact (Kd.R_reads' HO1214.out).2.1)
            rintro e w47 ⟨rfl, hb⟩
            refine ⟨_, rfl, ?_⟩
            have n0_ := Aside0.mk (Kd.V_below (by (with_reducible repeat (first | apply Kd.V_alloc | apply Kd.V_drewN | apply Kd.V_drew)); exact HO_1199000.out) hb)
            have n1_ := Aside0.mk (Kd.V_below (by (with_reducible repeat (first | apply Kd.V_alloc | apply Kd.V_drewN | apply Kd.V_drew)); exact HO_1199001.out) hb)
            have n2_ := Aside0.mk (Kd.V_below (by (with_reducible repeat (first | apply Kd.V_alloc | apply Kd.V_drewN | apply Kd.V_drew)); exact HO_1205000.out) hb)
            have n3_ := Aside0.mk (Kd.V_below (by (with_reducible repeat (first | apply Kd.V_alloc | apply Kd.V_drewN | apply Kd.V_drew)); exact HO_1205001.out) hb)
            have n4_ := Aside0.mk (Kd.R_below (by (with_reducible repeat (first | apply Kd.R_alloc | apply Kd.R_drewN | apply Kd.R_drew)); exact HO1208.out) hb)
            have n5_ := Aside0.mk (Kd.R_below (by (with_reducible repeat (first | apply Kd.R_alloc | apply Kd.R_drewN | apply Kd.R_drew)); exact HO1211.out) hb)
            have n6_ := Aside0.mk (Kd.R_below (by (with_reducible repeat (first | apply Kd.R_alloc | apply Kd.R_drewN | apply Kd.R_drew)); exact HO1214.out) hb)
            have n7_ := Aside0.mk (Kd.R_below (by (with_reducible repeat (first | apply Kd.R_alloc | apply Kd.R_drewN | apply Kd.R_drew)); exact HO1217.out) hb)
            have n8_ := Aside0.mk (Kd.R_below (by (with_reducible repeat (first | apply Kd.R_alloc | apply Kd.R_drewN | apply Kd.R_drew)); exact HO1220.out) hb)
            have n9_ := Aside0.mk (blk_below (g := gb1198) (o := .cells #[.slice A0_0 l0_0.length c0_0, .slice A0_1 l0_1.length c0_1] 26 (0, 0)) (by (with_reducible repeat (first | refine blk_drewN ?_ _ | refine blk_drew ?_ | refine blk_alloc ?_ _)); exact BK1198.out) hb)
            have n10_ := Aside0.mk (blk_below (g := gb1204) (o := .cells #[.slice Ao39 t1209.length co39, .slice Ao41 t1212.length co41] 26 (0, 0)) (by (with_reducible repeat (first | refine blk_drewN ?_ _ | refine blk_drew ?_ | refine blk_alloc ?_ _)); exact BK1204.out) hb)
            have n11_ := Aside0.mk (below_step (by repeat (first | (with_reducible first | exact HB.out | apply below_alloc | apply pw_below_drewN | apply below_drew1 | refine below_set ?_ GE1198.out | refine below_set ?_ GE1204.out) | exact HB.out)) hb)
            clear HO_1199000
            clear HO_1199001
            clear HO_1205000
            clear HO_1205001
            clear HO1208
            clear HO1211
            clear HO1214
            clear HO1217
            clear HO1220
            clear BK1198
            clear BK1204
            clear HB
            have HO_1199000 := n0_
            have HO_1199001 := n1_
            have HO_1205000 := n2_
            have HO_1205001 := n3_
            have HO1208 := n4_
            have HO1211 := n5_
            have HO1214 := n6_
            have HO1217 := n7_
            have HO1220 := n8_
            have BK1198 := n9_
            have BK1204 := n10_
            have HB := n11_
            clear n0_ n1_ n2_ n3_ n4_ n5_ n6_ n7_ n8_ n9_ n10_ n11_
            (try clear hb)
            (try clear hb2)
            (try clear hk)
            (try clear hi)
            refine hK.out _ _ ⟨(blk_cell BK1198.out 0).trans rfl, (blk_cell BK1198.out 1).trans rfl, (blk_cell BK1204.out 0).trans rfl, (blk_cell BK1204.out 1).trans rfl⟩ (fun hHeld => ?_)
            clear hK K
            refine norm_ (a' := ?_) ?_ ?_
            rotate_left
            · show Act.put _ (some 39) _ = _
              simp only [Act.put, List.setIfInBounds_toArray, List.set_cons_zero, List.set_cons_succ, i64_w, i32_w]
              rfl
            refine pure_ (i := 6) (N := some 6) (v := ?_) (a' := ?_) #[true, true, true, true, true, true, true] rfl rfl (by kernel_rfl) (fun _ _ _ h => h) (Or.inl ⟨by rfl, ?_⟩) ?_ ?_
            rotate_left
            · intro w'
              go_simp
              with_reducible rfl
            rotate_left
            · simp only [Act.put, List.setIfInBounds_toArray, List.set_cons_zero, List.set_cons_succ, i64_w, i32_w]
              rfl
            refine done_ (by kernel_rfl) ?_
            try go_wp2
            go_ret
            exact ⟨by first | rfl | (simp [errW_none, errW_some] <;> rfl) | (simp [*, errW_none, errW_some] <;> rfl), by repeat (first | (with_reducible first | exact HB.out | apply below_alloc | apply pw_below_drewN | apply below_drew1 | refine below_set ?_ GE1198.out | refine below_set ?_ GE1204.out) | exact HB.out)⟩
          · replace c29 := Bool.eq_false_iff.mpr c29
            subst c29
            have H1 : ((inner_Inner_Merged.f kj7 l0_0 l0_1 a1 a2).bind fun bt1222 => ((boscagelaw03_Same.f kj7 bt1222.1 bt1222.2 l0_0 l0_1).bind fun t1228 => (some t1228))) = some r := by rw [if_neg (show ¬ (false = true) by decide)] at H; exact H
            clear H
            have H := H1
            clear H1
            replace H := Option.bind_eq_some_iff.mp H
            obtain ⟨⟨t1222, t1225⟩, A480, H⟩ := H
            replace H : ((boscagelaw03_Same.f kj7 t1222 t1225 l0_0 l0_1).bind fun t1228 => (some t1228)) = some r := H
            have A48 := Aside0.mk A480
            clear A480
            replace H := Option.bind_eq_some_iff.mp H
            obtain ⟨t1228, A490, H⟩ := H
            replace H : (some t1228) = some r := H
            have A49 := Aside0.mk A490
            clear A490
            obtain rfl := Option.some.inj H
            try go_wp2
            have n0_ := Aside0.mk (Kd.V_drew HO_1199000.out)
            have n1_ := Aside0.mk (Kd.V_drew HO_1199001.out)
            have n2_ := Aside0.mk (Kd.V_drew HO_1205000.out)
            have n3_ := Aside0.mk (Kd.V_drew HO_1205001.out)
            have n4_ := Aside0.mk (blk_drew BK1198.out)
            have n5_ := Aside0.mk (blk_drew BK1204.out)
            have n6_ := Aside0.mk (below_drew1 HB.out)
            clear HO_1199000
            clear HO_1199001
            clear HO_1205000
            clear HO_1205001
            clear BK1198
            clear BK1204
            clear HB
            have HO_1199000 := n0_
            have HO_1199001 := n1_
            have HO_1205000 := n2_
            have HO_1205001 := n3_
            have BK1198 := n4_
            have BK1204 := n5_
            have HB := n6_
            clear n0_ n1_ n2_ n3_ n4_ n5_ n6_
            refine start_ (n := 7) (S := fun w' => w'.cell? ⟨gb1198, 0, none⟩ = some (.slice A0_0 l0_0.length c0_0) ∧ w'.cell? ⟨gb1198, 1, none⟩ = some (.slice A0_1 l0_1.length c0_1) ∧ w'.cell? ⟨gb1204, 0, none⟩ = some (.slice A0_0 l0_0.length c0_0) ∧ w'.cell? ⟨gb1204, 1, none⟩ = some (.slice A0_1 l0_1.length c0_1)) (ds := []) #[false, false, false, false, false, false, false] (by kernel_rfl) rfl rfl ⟨(blk_cell BK1198.out 0).trans rfl, (blk_cell BK1198.out 1).trans rfl, (blk_cell BK1204.out 0).trans rfl, (blk_cell BK1204.out 1).trans rfl⟩ (fun hHeld => ?_)
            generalize wc.drew = w50 at HO_1199000 HO_1199001 HO_1205000 HO_1205001 BK1198 BK1204 HB hHeld ⊢
            refine pure_ (i := 1) (N := some 35) (v := ?_) (a' := ?_) #[false, true, false, false, false, false, false] rfl rfl (by kernel_rfl) (fun _ _ _ h => h) (Or.inl ⟨by rfl, ?_⟩) ?_ ?_
            rotate_left
            · intro w'
              go_simp
              with_reducible rfl
            rotate_left
            · simp only [Act.put, List.setIfInBounds_toArray, List.set_cons_zero, List.set_cons_succ, i64_w, i32_w]
              rfl
            refine pure_ (i := 2) (N := some 36) (v := ?_) (a' := ?_) #[false, true, true, false, false, false, false] rfl rfl (by kernel_rfl) (fun _ _ _ h => h) (Or.inl ⟨by rfl, ?_⟩) ?_ ?_
            rotate_left
            · intro w'
              go_simp
              with_reducible rfl
            rotate_left
            · simp only [Act.put, List.setIfInBounds_toArray, List.set_cons_zero, List.set_cons_succ, i64_w, i32_w]
              rfl
            refine take_ (i := 0) (N := some 34) (v := ?_) (a' := ?_) #[true, true, true, false, false, false, false] rfl rfl (by kernel_rfl) (fun _ _ _ h => h) (Or.inl ⟨by rfl, ?_⟩) hHeld ?_ ?_
            rotate_left
            · rintro w' ⟨s0, s1, s2, s3⟩
              go_simp
              with_reducible rfl
            rotate_left
            · simp only [Act.put, List.setIfInBounds_toArray, List.set_cons_zero, List.set_cons_succ, i64_w, i32_w]
              rfl
            refine take_ (i := 4) (N := some 38) (v := ?_) (a' := ?_) #[true, true, true, false, true, false, false] rfl rfl (by kernel_rfl) (fun _ _ _ h => h) (Or.inl ⟨by rfl, ?_⟩) hHeld ?_ ?_
            rotate_left
            · rintro w' ⟨s0, s1, s2, s3⟩
              go_simp
              with_reducible rfl
            rotate_left
            · simp only [Act.put, List.setIfInBounds_toArray, List.set_cons_zero, List.set_cons_succ, i64_w, i32_w]
              rfl
            refine one_ (i := 3) (N := some 37) #[true, true, true, true, true, false, false] rfl rfl (by kernel_rfl) (by decide) (fun K hK => ?_)
            refine goes_ Try.func82 (by kernel_rfl) rfl #[.agg #[.slice A0_0 l0_0.length c0_0, .slice A0_1 l0_1.length c0_1], .int .i64 a1, .int .i64 a2] (by rfl) rfl rfl (by (try simp only [List.map_toArray, List.map_cons, List.map_nil]); first | done | rfl | (simp only [List.length_drop, List.length_take]; rfl)) ?_
            with_reducible refine (inner_Inner_Merged.calls kj7 _ _ l0_0 _ _ l0_1 a1 a2 t1222 t1225 _ ?side1 ?side2 ?side3 ?side4 A48.out).mono ?_
            (case side1 => repeat (first | exact (Kd.V_reads' HO_1199000.out).2.2 | (with_reducible refine Kd.C_alloc ?_ _) | (with_reducible refine Kd.C_drewN ?_ _) | (with_reducible refine Kd.C_drew ?_)))
            (case side2 => exact (Kd.V_reads' HO_1199000.out).2.1)
            (case side3 => repeat (first | exact (Kd.V_reads' HO_1199001.out).2.2 | (with_reducible refine Kd.C_alloc ?_ _) | (with_reducible refine Kd.C_drewN ?_ _) | (with_reducible refine Kd.C_drew ?_)))
            (case side4 => exact (Kd.V_reads' HO_1199001.out).2.1)
            rintro e w51 ⟨v1223, v1226, rfl, ho0, ho1, hb⟩
            refine ⟨_, rfl, ?_⟩
            have n0_ := Aside0.mk (Kd.V_mono (Kd.V_told (Kd.V_told (Kd.V_old (by (with_reducible repeat (first | apply Kd.V_alloc | apply Kd.V_drewN | apply Kd.V_drew)); exact HO_1199000.out) hb) (Kd.R_base ho0)) (Kd.R_base ho1)) (fun _ h_ => h_.1))
            have n1_ := Aside0.mk (Kd.V_mono (Kd.V_told (Kd.V_told (Kd.V_old (by (with_reducible repeat (first | apply Kd.V_alloc | apply Kd.V_drewN | apply Kd.V_drew)); exact HO_1199001.out) hb) (Kd.R_base ho0)) (Kd.R_base ho1)) (fun _ h_ => h_.1))
            have n2_ := Aside0.mk (Kd.V_mono (Kd.V_told (Kd.V_told (Kd.V_old (by (with_reducible repeat (first | apply Kd.V_alloc | apply Kd.V_drewN | apply Kd.V_drew)); exact HO_1205000.out) hb) (Kd.R_base ho0)) (Kd.R_base ho1)) (fun _ h_ => h_.1))
            have n3_ := Aside0.mk (Kd.V_mono (Kd.V_told (Kd.V_told (Kd.V_old (by (with_reducible repeat (first | apply Kd.V_alloc | apply Kd.V_drewN | apply Kd.V_drew)); exact HO_1205001.out) hb) (Kd.R_base ho0)) (Kd.R_base ho1)) (fun _ h_ => h_.1))
            have n4_ := Aside0.mk (Kd.R_lower (Kd.R_newM (M := fun k_ => (w.heap.size ≤ k_)) ho0 (below_size (by repeat (first | (with_reducible first | exact HB.out | apply below_alloc | apply pw_below_drewN | apply below_drew1 | refine below_set ?_ GE1198.out | refine below_set ?_ GE1204.out) | exact HB.out))) (fun k_ h_ => h_)) (below_size (by repeat (first | (with_reducible first | exact HB.out | apply below_alloc | apply pw_below_drewN | apply below_drew1 | refine below_set ?_ GE1198.out | refine below_set ?_ GE1204.out) | exact HB.out))))
            have n5_ := Aside0.mk (Kd.R_lower (Kd.R_newM (M := fun k_ => (w.heap.size ≤ k_)) ho1 (below_size (by repeat (first | (with_reducible first | exact HB.out | apply below_alloc | apply pw_below_drewN | apply below_drew1 | refine below_set ?_ GE1198.out | refine below_set ?_ GE1204.out) | exact HB.out))) (fun k_ h_ => h_)) (below_size (by repeat (first | (with_reducible first | exact HB.out | apply below_alloc | apply pw_below_drewN | apply below_drew1 | refine below_set ?_ GE1198.out | refine below_set ?_ GE1204.out) | exact HB.out))))
            have n6_ := Aside0.mk (blk_below (g := gb1198) (o := .cells #[.slice A0_0 l0_0.length c0_0, .slice A0_1 l0_1.length c0_1] 26 (0, 0)) (by (with_reducible repeat (first | refine blk_drewN ?_ _ | refine blk_drew ?_ | refine blk_alloc ?_ _)); exact BK1198.out) hb)
            have n7_ := Aside0.mk (blk_below (g := gb1204) (o := .cells #[.slice A0_0 l0_0.length c0_0, .slice A0_1 l0_1.length c0_1] 26 (0, 0)) (by (with_reducible repeat (first | refine blk_drewN ?_ _ | refine blk_drew ?_ | refine blk_alloc ?_ _)); exact BK1204.out) hb)
            have n8_ := Aside0.mk (below_step (by repeat (first | (with_reducible first | exact HB.out | apply below_alloc | apply pw_below_drewN | apply below_drew1 | refine below_set ?_ GE1198.out | refine below_set ?_ GE1204.out) | exact HB.out)) hb)
            clear HO_1199000
            clear HO_1199001
            clear HO_1205000
            clear HO_1205001
            clear BK1198
            clear BK1204
            clear HB
            have HO_1199000 := n0_
            have HO_1199001 := n1_
            have HO_1205000 := n2_
            have HO_1205001 := n3_
            have HO1224 := n4_
            have HO1227 := n5_
            have BK1198 := n6_
            have BK1204 := n7_
            have HB := n8_
            clear n0_ n1_ n2_ n3_ n4_ n5_ n6_ n7_ n8_
            (try clear hb)
            (try clear hb2)
            (try clear hk)
            (try clear hi)
            (try clear ho0)
            (try clear ho1)
            obtain ⟨Ao52, co52, eo52⟩ := Kd.R_slice HO1224.out
            (first | subst eo52 | (injection eo52 with f1_ f2_ f3_; have f4_ := f1_.symm; have f5_ := f3_.symm; clear f1_ f2_ f3_; subst f4_; subst f5_))
            obtain ⟨Ao53, co53, eo53⟩ := Kd.R_slice HO1227.out
            (first | subst eo53 | (injection eo53 with f1_ f2_ f3_; have f4_ := f1_.symm; have f5_ := f3_.symm; clear f1_ f2_ f3_; subst f4_; subst f5_))
            refine hK.out _ _ ⟨(blk_cell BK1198.out 0).trans rfl, (blk_cell BK1198.out 1).trans rfl, (blk_cell BK1204.out 0).trans rfl, (blk_cell BK1204.out 1).trans rfl⟩ (fun hHeld => ?_)
            clear hK K
            refine norm_ (a' := ?_) ?_ ?_
            rotate_left
            · show Act.put _ (some 37) _ = _
              simp only [Act.put, List.setIfInBounds_toArray, List.set_cons_zero, List.set_cons_succ, i64_w, i32_w]
              rfl
            refine one_ (i := 5) (N := some 39) #[true, true, true, true, true, true, false] rfl rfl (by kernel_rfl) (by decide) (fun K hK => ?_)
            refine goes_ Try.func51 (by kernel_rfl) rfl #[.agg #[.slice Ao52 t1222.length co52, .slice Ao53 t1225.length co53], .agg #[.slice A0_0 l0_0.length c0_0, .slice A0_1 l0_1.length c0_1]] (by rfl) rfl rfl (by (try simp only [List.map_toArray, List.map_cons, List.map_nil]); first | done | rfl | (simp only [List.length_drop, List.length_take]; rfl)) ?_
            with_reducible refine (boscagelaw03_Same.calls kj7 _ _ t1222 _ _ t1225 _ _ l0_0 _ _ l0_1 t1228 _ ?side1 ?side2 ?side3 ?side4 ?side5 ?side6 ?side7 ?side8 A49.out).mono ?_
            (case side1 => repeat (first | exact (Kd.R_reads' HO1224.out).2.2 | (with_reducible refine Kd.C_alloc ?_ _) | (with_reducible refine Kd.C_drewN ?_ _) | (with_reducible refine Kd.C_drew ?_)))
            (case side2 => exact (Kd.R_reads' HO1224.out).2.1)
            (case side3 => repeat (first | exact (Kd.R_reads' HO1227.out).2.2 | (with_reducible refine Kd.C_alloc ?_ _) | (with_reducible refine Kd.C_drewN ?_ _) | (with_reducible refine Kd.C_drew ?_)))
            (case side4 => exact (Kd.R_reads' HO1227.out).2.1)
            (case side5 => repeat (first | exact (Kd.V_reads' HO_1205000.out).2.2 | (with_reducible refine Kd.C_alloc ?_ _) | (with_reducible refine Kd.C_drewN ?_ _) | (with_reducible refine Kd.C_drew ?_)))
            (case side6 => exact (Kd.V_reads' HO_1205000.out).2.1)
            (case side7 => repeat (first | exact (Kd.V_reads' HO_1205001.out).2.2 | (with_reducible refine Kd.C_alloc ?_ _) | (with_reducible refine Kd.C_drewN ?_ _) | (with_reducible refine Kd.C_drew ?_)))
            (case side8 => exact (Kd.V_reads' HO_1205001.out).2.1)
            rintro e w54 ⟨rfl, hb⟩
            refine ⟨_, rfl, ?_⟩
            have n0_ := Aside0.mk (Kd.V_below (by (with_reducible repeat (first | apply Kd.V_alloc | apply Kd.V_drewN | apply Kd.V_drew)); exact HO_1199000.out) hb)
            have n1_ := Aside0.mk (Kd.V_below (by (with_reducible repeat (first | apply Kd.V_alloc | apply Kd.V_drewN | apply Kd.V_drew)); exact HO_1199001.out) hb)
            have n2_ := Aside0.mk (Kd.V_below (by (with_reducible repeat (first | apply Kd.V_alloc | apply Kd.V_drewN | apply Kd.V_drew)); exact HO_1205000.out) hb)
            have n3_ := Aside0.mk (Kd.V_below (by (with_reducible repeat (first | apply Kd.V_alloc | apply Kd.V_drewN | apply Kd.V_drew)); exact HO_1205001.out) hb)
            have n4_ := Aside0.mk (Kd.R_below (by (with_reducible repeat (first | apply Kd.R_alloc | apply Kd.R_drewN | apply Kd.R_drew)); exact HO1224.out) hb)
            have n5_ := Aside0.mk (Kd.R_below (by (with_reducible repeat (first | apply Kd.R_alloc | apply Kd.R_drewN | apply Kd.R_drew)); exact HO1227.out) hb)
            have n6_ := Aside0.mk (blk_below (g := gb1198) (o := .cells #[.slice A0_0 l0_0.length c0_0, .slice A0_1 l0_1.length c0_1] 26 (0, 0)) (by (with_reducible repeat (first | refine blk_drewN ?_ _ | refine blk_drew ?_ | refine blk_alloc ?_ _)); exact BK1198.out) hb)
            have n7_ := Aside0.mk (blk_below (g := gb1204) (o := .cells #[.slice A0_0 l0_0.length c0_0, .slice A0_1 l0_1.length c0_1] 26 (0, 0)) (by (with_reducible repeat (first | refine blk_drewN ?_ _ | refine blk_drew ?_ | refine blk_alloc ?_ _)); exact BK1204.out) hb)
            have n8_ := Aside0.mk (below_step (by repeat (first | (with_reducible first | exact HB.out | apply below_alloc | apply pw_below_drewN | apply below_drew1 | refine below_set ?_ GE1198.out | refine below_set ?_ GE1204.out) | exact HB.out)) hb)
            clear HO_1199000
            clear HO_1199001
            clear HO_1205000
            clear HO_1205001
            clear HO1224
            clear HO1227
            clear BK1198
            clear BK1204
            clear HB
            have HO_1199000 := n0_
            have HO_1199001 := n1_
            have HO_1205000 := n2_
            have HO_1205001 := n3_
            have HO1224 := n4_
            have HO1227 := n5_
            have BK1198 := n6_
            have BK1204 := n7_
            have HB := n8_
            clear n0_ n1_ n2_ n3_ n4_ n5_ n6_ n7_ n8_
            (try clear hb)
            (try clear hb2)
            (try clear hk)
            (try clear hi)
            refine hK.out _ _ ⟨(blk_cell BK1198.out 0).trans rfl, (blk_cell BK1198.out 1).trans rfl, (blk_cell BK1204.out 0).trans rfl, (blk_cell BK1204.out 1).trans rfl⟩ (fun hHeld => ?_)
            clear hK K
            refine norm_ (a' := ?_) ?_ ?_
            rotate_left
            · show Act.put _ (some 39) _ = _
              simp only [Act.put, List.setIfInBounds_toArray, List.set_cons_zero, List.set_cons_succ, i64_w, i32_w]
              rfl
            refine pure_ (i := 6) (N := some 6) (v := ?_) (a' := ?_) #[true, true, true, true, true, true, true] rfl rfl (by kernel_rfl) (fun _ _ _ h => h) (Or.inl ⟨by rfl, ?_⟩) ?_ ?_
            rotate_left
            · intro w'
              go_simp
              with_reducible rfl
            rotate_left
            · simp only [Act.put, List.setIfInBounds_toArray, List.set_cons_zero, List.set_cons_succ, i64_w, i32_w]
              rfl
            refine done_ (by kernel_rfl) ?_
            try go_wp2
            go_ret
            exact ⟨by first | rfl | (simp [errW_none, errW_some] <;> rfl) | (simp [*, errW_none, errW_some] <;> rfl), by repeat (first | (with_reducible first | exact HB.out | apply below_alloc | apply pw_below_drewN | apply below_drew1 | refine below_set ?_ GE1198.out | refine below_set ?_ GE1204.out) | exact HB.out)⟩
    · replace c7 := Bool.eq_false_iff.mpr c7
      subst c7
      have H1 : (some true) = some r := by rw [if_neg (show ¬ (false = true) by decide)] at H; exact H
      clear H
      have H := H1
      clear H1
      obtain rfl := Option.some.inj H
      go_enter Try.func28, Try.ntmps28
      go_wp2_with (first | ((with_reducible refine gate_dst (N := 3) rfl ?_); (try (refine gate_guard (by rfl) ?_; dsimp only)); refine box_event ?hg (N := 3) ?hd (cs := #[.slice A0_0 l0_0.length c0_0, .slice A0_1 l0_1.length c0_1]) (t := 26) ?hr ?_; (case hd => rfl); (case hg => rfl); (case hr => first | (go_simp; done) | (go_simp; rfl)); intro gb1198 hg w55 hbox hb; have n0_ := Aside0.mk (Kd.V_below (Kd.V_elderB (by (with_reducible repeat (first | apply Kd.V_alloc | apply Kd.V_drewN | apply Kd.V_drew)); exact HO0_0.out) gb1198 (Nat.le_of_eq hg.symm)) hb); have n1_ := Aside0.mk (Kd.V_below (Kd.V_elderB (by (with_reducible repeat (first | apply Kd.V_alloc | apply Kd.V_drewN | apply Kd.V_drew)); exact HO0_1.out) gb1198 (Nat.le_of_eq hg.symm)) hb); have n2_ := Aside0.mk (below_step (by repeat (first | (with_reducible first | exact HB.out | apply below_alloc | apply pw_below_drewN | apply below_drew1) | exact HB.out)) hb); have n3_ := Aside0.mk (hbox); have n4_ := Aside0.mk ((by rw [hg]; exact (below_size (by repeat (first | (with_reducible first | exact HB.out | apply below_alloc | apply pw_below_drewN | apply below_drew1) | exact HB.out))) : w.heap.size ≤ gb1198)); have n5_ := Aside0.mk ((by rw [hg]; exact (below_size (by repeat (first | (with_reducible first | exact HB.out | apply below_alloc | apply pw_below_drewN | apply below_drew1) | exact HB.out))) : w.heap.size ≤ gb1198)); clear HO0_0; clear HO0_1; clear HB; have HO0_0 := n0_; have HO0_1 := n1_; have HB := n2_; have BK1198 := n3_; have GW1198 := n4_; have GE1198 := n5_; clear n0_ n1_ n2_ n3_ n4_ n5_; clear hb hbox hg) | ((with_reducible refine gate_callee (f := 38) rfl ?_); refine goesL_ (some 8) rfl rfl Try.func38 (by kernel_rfl) rfl #[] rfl (by (try simp only [List.map_toArray, List.map_cons, List.map_nil]); first | done | rfl | (simp only [List.length_drop, List.length_take]; rfl)) ?_; (with_reducible refine (boscagelaw03_Awake.calls k  true _ A4.out).mono ?_); rintro e w56 ⟨rfl, hb⟩; refine ⟨_, rfl, ?_⟩; have n0_ := Aside0.mk (Kd.V_below (by (with_reducible repeat (first | apply Kd.V_alloc | apply Kd.V_drewN | apply Kd.V_drew)); exact HO0_0.out) hb); have n1_ := Aside0.mk (Kd.V_below (by (with_reducible repeat (first | apply Kd.V_alloc | apply Kd.V_drewN | apply Kd.V_drew)); exact HO0_1.out) hb); have n2_ := Aside0.mk (blk_below (g := gb1198) (o := .cells #[.slice A0_0 l0_0.length c0_0, .slice A0_1 l0_1.length c0_1] 26 (0, 0)) (by (with_reducible repeat (first | refine blk_drewN ?_ _ | refine blk_drew ?_ | refine blk_alloc ?_ _)); exact BK1198.out) hb); have n3_ := Aside0.mk (below_step (by repeat (first | (with_reducible first | exact HB.out | apply below_alloc | apply pw_below_drewN | apply below_drew1 | refine below_set ?_ GE1198.out) | exact HB.out)) hb); clear HO0_0; clear HO0_1; clear BK1198; clear HB; have HO0_0 := n0_; have HO0_1 := n1_; have BK1198 := n2_; have HB := n3_; clear n0_ n1_ n2_ n3_; (try clear hb); (try clear hb2); (try clear hk); (try clear hi); have hcz57_0 : w56.cell? ⟨gb1198, 0, none⟩ = some (.slice A0_0 l0_0.length c0_0) := (blk_cell BK1198.out 0).trans rfl; have hcz57_1 : w56.cell? ⟨gb1198, 1, none⟩ = some (.slice A0_1 l0_1.length c0_1) := (blk_cell BK1198.out 1).trans rfl; have hfz57_0 := blk_frozen BK1198.out 0; have hfz57_1 := blk_frozen BK1198.out 1) | ((with_reducible refine gate_dst (N := 11) rfl ?_); (try (refine gate_guard (by rfl) ?_; dsimp only)); refine Kd.N_lit k26 _ 26 ?hg (N' := 11) ?hd (xs := ([(⟨l0_0, l0_1⟩ : S26)] : List (S26))) (inner := [.slice A0_0 l0_0.length c0_0, .slice A0_1 l0_1.length c0_1]) (ok := (fun k_ => ((P0_0_ k_ ∨ P0_1_ k_) ∨ w.heap.size ≤ k_) ∧ k_ ≠ gb1198)) (okp := (fun k_ => ((P0_0_ k_ ∨ P0_1_ k_) ∨ w.heap.size ≤ k_) ∧ k_ ≠ gb1198)) ?hr ?hp (fun _ hk => hk) ((show ∀ k_, w56.heap.size ≤ k_ → (fun k_ => ((P0_0_ k_ ∨ P0_1_ k_) ∨ w.heap.size ≤ k_) ∧ k_ ≠ gb1198) k_ from fun k_ hk => ⟨(.inr (Nat.le_trans (below_size (by repeat (first | (with_reducible first | exact HB.out | apply below_alloc | apply pw_below_drewN | apply below_drew1 | refine below_set ?_ GE1198.out) | exact HB.out))) hk)), Kd.freshB (g := gb1198) (o := .cells #[.slice A0_0 l0_0.length c0_0, .slice A0_1 l0_1.length c0_1] 26 (0, 0)) (by (with_reducible repeat (first | refine blk_drewN ?_ _ | refine blk_drew ?_ | refine blk_alloc ?_ _)); exact BK1198.out) k_ hk⟩) _ (Nat.le_refl _)) (Below.refl _ _) (Nat.le_refl _) (by simp) ?_; (case hd => rfl); (case hg => rfl); (case hr => first | (go_simp; done) | (go_simp; rfl)); (case hp => exact (Reps.c2 (show Kd.FK k26 _ _ (⟨l0_0, l0_1⟩ : S26) [.slice A0_0 l0_0.length c0_0, .slice A0_1 l0_1.length c0_1] from (k26_mkF _ _ (⟨l0_0, l0_1⟩ : S26) (Kd.V_reads' (Kd.V_mono (ok' := (fun k_ => ((P0_0_ k_ ∨ P0_1_ k_) ∨ w.heap.size ≤ k_) ∧ k_ ≠ gb1198)) (HO0_0.out) (fun k_ hk => ⟨hk.1, hk.2⟩))).2.1 (Kd.V_F (Kd.V_mono (ok' := (fun k_ => ((P0_0_ k_ ∨ P0_1_ k_) ∨ w.heap.size ≤ k_) ∧ k_ ≠ gb1198)) (HO0_0.out) (fun k_ hk => ⟨hk.1, hk.2⟩))) (Kd.V_reads' (Kd.V_mono (ok' := (fun k_ => ((P0_0_ k_ ∨ P0_1_ k_) ∨ w.heap.size ≤ k_) ∧ k_ ≠ gb1198)) (HO0_1.out) (fun k_ hk => ⟨hk.1, hk.2⟩))).2.1 (Kd.V_F (Kd.V_mono (ok' := (fun k_ => ((P0_0_ k_ ∨ P0_1_ k_) ∨ w.heap.size ≤ k_) ∧ k_ ≠ gb1198)) (HO0_1.out) (fun k_ hk => ⟨hk.1, hk.2⟩))))) (Reps.none _ _))); intro v1201 w58 ho59 hb hg_ hnew_; clear hg_ hnew_; (first | rw [← Ny1200.out] at ho59 | (simp only [Int.reduceToNat] at ho59; rw [← Ny1200.out] at ho59)); have n0_ := Aside0.mk (Kd.V_elder' (by (with_reducible repeat (first | apply Kd.V_alloc | apply Kd.V_drewN | apply Kd.V_drew)); exact HO0_0.out) (Kd.N_base ho59) hb); have n1_ := Aside0.mk (Kd.V_elder' (by (with_reducible repeat (first | apply Kd.V_alloc | apply Kd.V_drewN | apply Kd.V_drew)); exact HO0_1.out) (Kd.N_base ho59) hb); have n2_ := Aside0.mk (Kd.N_lower ho59 (below_size (by repeat (first | (with_reducible first | exact HB.out | apply below_alloc | apply pw_below_drewN | apply below_drew1 | refine below_set ?_ GE1198.out) | exact HB.out)))); have n3_ := Aside0.mk (blk_below (g := gb1198) (o := .cells #[.slice A0_0 l0_0.length c0_0, .slice A0_1 l0_1.length c0_1] 26 (0, 0)) (by (with_reducible repeat (first | refine blk_drewN ?_ _ | refine blk_drew ?_ | refine blk_alloc ?_ _)); exact BK1198.out) hb); have n4_ := Aside0.mk (below_step (by repeat (first | (with_reducible first | exact HB.out | apply below_alloc | apply pw_below_drewN | apply below_drew1 | refine below_set ?_ GE1198.out) | exact HB.out)) hb); clear HO0_0; clear HO0_1; clear BK1198; clear HB; have HO0_0 := n0_; have HO0_1 := n1_; have HO1202 := n2_; have BK1198 := n3_; have HB := n4_; clear n0_ n1_ n2_ n3_ n4_; clear hb ho59; obtain ⟨Ao60, co60, eo60⟩ := Kd.N_slice HO1202.out; subst eo60) | ((with_reducible refine gate_callee (f := 42) rfl ?_); refine goesL_ (some 12) rfl rfl Try.func42 (by kernel_rfl) rfl #[.slice Ao60 y1200.length co60] rfl (by (try simp only [List.map_toArray, List.map_cons, List.map_nil]); first | done | rfl | (simp only [List.length_drop, List.length_take]; rfl)) ?_; (with_reducible refine (boscagelaw03_short.calls k _ _ y1200 false _ ?side1 ?side2 A6.out).mono ?_); (case side1 => repeat (first | exact (Kd.N_reads' HO1202.out).2.2 | (with_reducible refine Kd.C_alloc ?_ _) | (with_reducible refine Kd.C_drewN ?_ _) | (with_reducible refine Kd.C_drew ?_))); (case side2 => exact (Kd.N_reads' HO1202.out).2.1); rintro e w61 ⟨rfl, hb⟩; refine ⟨_, rfl, ?_⟩; have n0_ := Aside0.mk (Kd.V_below (by (with_reducible repeat (first | apply Kd.V_alloc | apply Kd.V_drewN | apply Kd.V_drew)); exact HO0_0.out) hb); have n1_ := Aside0.mk (Kd.V_below (by (with_reducible repeat (first | apply Kd.V_alloc | apply Kd.V_drewN | apply Kd.V_drew)); exact HO0_1.out) hb); have n2_ := Aside0.mk (Kd.N_below (by (with_reducible repeat (first | apply Kd.N_alloc | apply Kd.N_drewN | apply Kd.N_drew)); exact HO1202.out) hb); have n3_ := Aside0.mk (blk_below (g := gb1198) (o := .cells #[.slice A0_0 l0_0.length c0_0, .slice A0_1 l0_1.length c0_1] 26 (0, 0)) (by (with_reducible repeat (first | refine blk_drewN ?_ _ | refine blk_drew ?_ | refine blk_alloc ?_ _)); exact BK1198.out) hb); have n4_ := Aside0.mk (below_step (by repeat (first | (with_reducible first | exact HB.out | apply below_alloc | apply pw_below_drewN | apply below_drew1 | refine below_set ?_ GE1198.out) | exact HB.out)) hb); clear HO0_0; clear HO0_1; clear HO1202; clear BK1198; clear HB; have HO0_0 := n0_; have HO0_1 := n1_; have HO1202 := n2_; have BK1198 := n3_; have HB := n4_; clear n0_ n1_ n2_ n3_ n4_; (try clear hb); (try clear hb2); (try clear hk); (try clear hi)))
      go_ret
      exact ⟨by first | rfl | (simp [errW_none, errW_some] <;> rfl) | (simp [*, errW_none, errW_some] <;> rfl), by repeat (first | (with_reducible first | exact HB.out | apply below_alloc | apply pw_below_drewN | apply below_drew1 | refine below_set ?_ GE1198.out) | exact HB.out)⟩
  · replace c5 := Bool.eq_false_iff.mpr c5
    subst c5
    have H1 : (some false) = some r := by rw [if_neg (show ¬ (false = true) by decide)] at H; exact H
    clear H
    have H := H1
    clear H1
    obtain rfl := Option.some.inj H
    go_enter Try.func28, Try.ntmps28
    go_wp2_with (first | ((with_reducible refine gate_dst (N := 3) rfl ?_); (try (refine gate_guard (by rfl) ?_; dsimp only)); refine box_event ?hg (N := 3) ?hd (cs := #[.slice A0_0 l0_0.length c0_0, .slice A0_1 l0_1.length c0_1]) (t := 26) ?hr ?_; (case hd => rfl); (case hg => rfl); (case hr => first | (go_simp; done) | (go_simp; rfl)); intro gb1198 hg w62 hbox hb; have n0_ := Aside0.mk (Kd.V_below (Kd.V_elderB (by (with_reducible repeat (first | apply Kd.V_alloc | apply Kd.V_drewN | apply Kd.V_drew)); exact HO0_0.out) gb1198 (Nat.le_of_eq hg.symm)) hb); have n1_ := Aside0.mk (Kd.V_below (Kd.V_elderB (by (with_reducible repeat (first | apply Kd.V_alloc | apply Kd.V_drewN | apply Kd.V_drew)); exact HO0_1.out) gb1198 (Nat.le_of_eq hg.symm)) hb); have n2_ := Aside0.mk (below_step (by repeat (first | (with_reducible first | exact HB.out | apply below_alloc | apply pw_below_drewN | apply below_drew1) | exact HB.out)) hb); have n3_ := Aside0.mk (hbox); have n4_ := Aside0.mk ((by rw [hg]; exact (below_size (by repeat (first | (with_reducible first | exact HB.out | apply below_alloc | apply pw_below_drewN | apply below_drew1) | exact HB.out))) : w.heap.size ≤ gb1198)); have n5_ := Aside0.mk ((by rw [hg]; exact (below_size (by repeat (first | (with_reducible first | exact HB.out | apply below_alloc | apply pw_below_drewN | apply below_drew1) | exact HB.out))) : w.heap.size ≤ gb1198)); clear HO0_0; clear HO0_1; clear HB; have HO0_0 := n0_; have HO0_1 := n1_; have HB := n2_; have BK1198 := n3_; have GW1198 := n4_; have GE1198 := n5_; clear n0_ n1_ n2_ n3_ n4_ n5_; clear hb hbox hg) | ((with_reducible refine gate_callee (f := 38) rfl ?_); refine goesL_ (some 8) rfl rfl Try.func38 (by kernel_rfl) rfl #[] rfl (by (try simp only [List.map_toArray, List.map_cons, List.map_nil]); first | done | rfl | (simp only [List.length_drop, List.length_take]; rfl)) ?_; (with_reducible refine (boscagelaw03_Awake.calls k  false _ A4.out).mono ?_); rintro e w63 ⟨rfl, hb⟩; refine ⟨_, rfl, ?_⟩; have n0_ := Aside0.mk (Kd.V_below (by (with_reducible repeat (first | apply Kd.V_alloc | apply Kd.V_drewN | apply Kd.V_drew)); exact HO0_0.out) hb); have n1_ := Aside0.mk (Kd.V_below (by (with_reducible repeat (first | apply Kd.V_alloc | apply Kd.V_drewN | apply Kd.V_drew)); exact HO0_1.out) hb); have n2_ := Aside0.mk (blk_below (g := gb1198) (o := .cells #[.slice A0_0 l0_0.length c0_0, .slice A0_1 l0_1.length c0_1] 26 (0, 0)) (by (with_reducible repeat (first | refine blk_drewN ?_ _ | refine blk_drew ?_ | refine blk_alloc ?_ _)); exact BK1198.out) hb); have n3_ := Aside0.mk (below_step (by repeat (first | (with_reducible first | exact HB.out | apply below_alloc | apply pw_below_drewN | apply below_drew1 | refine below_set ?_ GE1198.out) | exact HB.out)) hb); clear HO0_0; clear HO0_1; clear BK1198; clear HB; have HO0_0 := n0_; have HO0_1 := n1_; have BK1198 := n2_; have HB := n3_; clear n0_ n1_ n2_ n3_; (try clear hb); (try clear hb2); (try clear hk); (try clear hi)))
    go_ret
    exact ⟨by first | rfl | (simp [errW_none, errW_some] <;> rfl) | (simp [*, errW_none, errW_some] <;> rfl), by repeat (first | (with_reducible first | exact HB.out | apply below_alloc | apply pw_below_drewN | apply below_drew1 | refine below_set ?_ GE1198.out) | exact HB.out)⟩

end Go.Proofs.Ytkoiffkonjpoiaa.Q
