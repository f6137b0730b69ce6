/- Go functions of the program as plain Lean functions, and for each the contract that the call comes to its answers; written by a turned print of this session. -/
import Derived.Test.YtkoiffkonjpoiaaQ0
import Derived.Test.YtkoiffkonjpoiaaQA1
namespace Go.Proofs.Ytkoiffkonjpoiaa.Q
open Go.RowKit Go.Proofs.YtkoiffkonjpoiaaW.PrintWords Go.Proofs.YtkoiffkonjpoiaaW.PrintLast Go.Proofs.YtkoiffkonjpoiaaW.PrintMore Go.Proofs.YtkoiffkonjpoiaaX
attribute [local go_sem] max2_int min2_int max_two min_two max_three min_three max_four min_four   -- for this text's walks alone
set_option linter.unusedVariables false
set_option linter.unusedSimpArgs false

def boscagelaw02_Between.l0 : Nat → Int → Int → List (S40) → List (S40) → Int → Int → Option ((List (S40)))
  | 0, _, _, _, _, _, _ => none
  | k + 1, x1, x2, x7, x10, x11, x12 => if x12 < x11 then (if 0 ≤ x12 then (if x12 < (x10.length : Int) then (if x1 ≤ ((rd_T40 x10 x12).f0) then (if ((rd_T40 x10 x12).f0) ≤ x2 then (if x7.length < 8796093022208 then (boscagelaw02_Between.l0 k x1 x2 (x7 ++ [(⟨(rd_T40 x10 x12).f0, (rd_T40 x10 x12).f1⟩ : S40)]) x10 x11 (wrap64 (x12 + 1))) else (none)) else (boscagelaw02_Between.l0 k x1 x2 x7 x10 x11 (wrap64 (x12 + 1)))) else (boscagelaw02_Between.l0 k x1 x2 x7 x10 x11 (wrap64 (x12 + 1)))) else (none)) else (none)) else (some x7)
def boscagelaw02_Between.f (k : Nat) (l0 : List (S40)) (a1 : Int) (a2 : Int) : Option ((List (S40))) := boscagelaw02_Between.l0 k a1 a2 ([] : List (S40)) l0 (l0.length : Int) 0
set_option maxHeartbeats 8000000 in
set_option maxRecDepth 100000 in
theorem boscagelaw02_Between.calls (k : Nat) (A0 : Option Addr) (c0 : Nat) (l0 : List (S40)) (a1 : Int) (a2 : Int) (r : List (S40)) (w : World) (hr0 : Kd.C k40 w A0 l0.length l0) (hc0 : l0.length ≤ c0) (h : boscagelaw02_Between.f k l0 a1 a2 = some r) :
    Calls Try.prog 65 #[.slice A0 l0.length c0, .int .i64 a1, .int .i64 a2] w fun e w' => ∃ v0_ : Value, e = .returned (v0_) ∧ Kd.R k40 40 w' w.heap.size (fun _ => True) v0_ r ∧ Below w.heap.size w w' := by
  have hu40 := Try.underlying40
  have HR0 := Aside0.mk hr0
  have HC0 := Aside0.mk hc0
  clear hr0 hc0
  have HB := Aside0.mk (Below.refl w.heap.size w)
  have H : (boscagelaw02_Between.l0 k a1 a2 ([] : List (S40)) l0 (l0.length : Int) 0) = some r := h
  clear h
  have H' := Aside0.mk H
  clear H
  go_enter Try.func65, Try.ntmps65
  go_wp2
  go_loopg [7, 12] k (fun kq v7 v12 w' => ∃ (x7_1 : List (S40)) (x12_1 : Int), v12 = .int .i64 x12_1 ∧ Aside0 (boscagelaw02_Between.l0 kq a1 a2 x7_1 l0 (l0.length : Int) x12_1 = some r) ∧ Aside0 (kq ≤ k) ∧ Aside0 (Kd.R k40 40 w' w.heap.size (fun _ => True) v7 x7_1) ∧ Aside0 (Below w.heap.size w w'))
  case atStart => exact ⟨(([] : List (S40))), (0), (by first | rfl | (simp; done) | (simp [*]; done)), H', ⟨Nat.le_refl _⟩, ⟨by first | exact Kd.R_nil _ _ _ _ _ | exact Kd.N_nil _ _ _ _ _ | exact Kd.V_nil _ _ _ _ _ | exact Kd.Q_nil _ _ _ _ _ | exact Kd.S_nil _ _ _ _ _⟩, ⟨by repeat (first | (with_reducible first | exact HB.out | apply below_alloc | apply pw_below_drewN | apply below_drew1) | exact HB.out)⟩⟩
  case round =>
    clear H'
    try clear p2
    obtain ⟨x7_1, x12_1, rfl, HA, HK1, HO_7, HB⟩ := hrel
    cases gk with
    | zero => exact absurd HA.out (by simp [boscagelaw02_Between.l0])
    | succ k1 =>
      have H := HA.out
      clear HA
      simp only [boscagelaw02_Between.l0] at H
      by_cases c4 : x12_1 < (l0.length : Int)
      · rw [if_pos c4] at H
        have c4b0 : decide (x12_1 < (l0.length : Int)) = true := decide_eq_true c4
        clear c4
        by_cases c5 : 0 ≤ x12_1
        · rw [if_pos c5] at H
          have c5b0 : decide (0 ≤ x12_1) = true := decide_eq_true c5
          clear c5
          by_cases c6 : x12_1 < (l0.length : Int)
          · rw [if_pos c6] at H
            have c6b0 : decide (x12_1 < (l0.length : Int)) = true := decide_eq_true c6
            clear c6
            by_cases c7 : a1 ≤ ((rd_T40 l0 x12_1).f0)
            · rw [if_pos c7] at H
              have c7b0 : decide (a1 ≤ ((rd_T40 l0 x12_1).f0)) = true := decide_eq_true c7
              clear c7
              by_cases c8 : ((rd_T40 l0 x12_1).f0) ≤ a2
              · rw [if_pos c8] at H
                have c8b0 : decide (((rd_T40 l0 x12_1).f0) ≤ a2) = true := decide_eq_true c8
                clear c8
                by_cases c9 : x7_1.length < 8796093022208
                · rw [if_pos c9] at H
                  have LMc9 := Aside0.mk c9
                  clear c9
                  obtain ⟨y598, hy598⟩ : ∃ y_ : List (S40), y_ = (x7_1 ++ [(⟨(rd_T40 l0 x12_1).f0, (rd_T40 l0 x12_1).f1⟩ : S40)]) := ⟨_, rfl⟩
                  replace H : (boscagelaw02_Between.l0 k1 a1 a2 y598 l0 (l0.length : Int) (wrap64 (x12_1 + 1))) = some r := by first | (rw [hy598]; with_reducible exact H) | (have H2_ := (Option.bind_some _ _).symm.trans H; rw [hy598]; with_reducible exact H2_) | (have H2_ := (Option.bind_some _ _).symm.trans H; with_reducible exact H2_) | with_reducible exact H | (rw [hy598]; exact H) | exact H
                  have Ny598 := Aside0.mk hy598
                  clear hy598
                  have H' := Aside0.mk H
                  clear H
                  have p596 : 0 ≤ (x12_1 : Int) := of_decide_eq_true (by first | (with_reducible assumption) | assumption)
                  have q596 : x12_1 < (l0.length : Int) := of_decide_eq_true (by first | (with_reducible assumption) | assumption)
                  obtain ⟨ad596, e596, hx596_0, hx596_1⟩ := at_T40 HR0.out x12_1 p596 q596
                  cases e596
                  replace hx596_0 := (HB.out.cell (World.block_lt_of_cell? w _ hx596_0)).trans hx596_0
                  replace hx596_1 := (HB.out.cell (World.block_lt_of_cell? w _ hx596_1)).trans hx596_1
                  replace p596 := eq_true p596
                  replace q596 := eq_true q596
                  go_wp2_with (first | ((with_reducible refine gate_dst (N := 9) rfl ?_); refine box_event ?hg (N := 9) ?hd (cs := #[.int .i64 0, .int .i64 0]) (t := 40) ?hr ?_; (case hd => rfl); (case hg => rfl); (case hr => first | (go_simp; done) | (go_simp; rfl)); intro gb597 hg w10 hbox hb; have n0_ := Aside0.mk (Kd.R_below (Kd.R_elderB (by (with_reducible repeat (first | apply Kd.R_alloc | apply Kd.R_drewN | apply Kd.R_drew)); exact HO_7.out) gb597 (Nat.le_of_eq hg.symm)) hb); have n1_ := Aside0.mk (below_step (by repeat (first | (with_reducible first | exact HB.out | apply below_alloc | apply pw_below_drewN | apply below_drew1) | exact HB.out)) hb); have n2_ := Aside0.mk (hbox); have n3_ := Aside0.mk ((by rw [hg]; exact (below_size (by repeat (first | (with_reducible first | exact HB.out | apply below_alloc | apply pw_below_drewN | apply below_drew1) | exact HB.out))) : w.heap.size ≤ gb597)); have n4_ := Aside0.mk ((by rw [hg]; exact (below_size (by repeat (first | (with_reducible first | exact HB.out | apply below_alloc | apply pw_below_drewN | apply below_drew1) | exact HB.out))) : w.heap.size ≤ gb597)); clear HO_7; clear HB; have HO_7 := n0_; have HB := n1_; have BK597 := n2_; have GW597 := n3_; have GE597 := n4_; clear n0_ n1_ n2_ n3_ n4_; clear hb hbox hg; have hcz11_0 : w10.cell? ⟨gb597, 0, none⟩ = some (.int .i64 0) := (blk_cell BK597.out 0).trans rfl; have hcz11_1 : w10.cell? ⟨gb597, 1, none⟩ = some (.int .i64 0) := (blk_cell BK597.out 1).trans rfl; have hfz11_0 := blk_frozen BK597.out 0; have hfz11_1 := blk_frozen BK597.out 1) | ((with_reducible refine gate_builtin (b := .append) (xs := #[.tmp 26, .tmp 28]) rfl ?_); at_builtin; refine Kd.R_append k40 (w0 := w) w.heap.size rfl (.tmp 26) (.tmp 28) 34 40 (.agg #[(.int .i64 0), (.int .i64 0)]) 16 rfl Try.underlying34 info40 rfl (by decide) (by omega) u7 x7_1 (⟨(rd_T40 l0 x12_1).f0, (rd_T40 l0 x12_1).f1⟩ : S40) [.int .i64 ((rd_T40 l0 x12_1).f0), .int .i64 ((rd_T40 l0 x12_1).f1)] (fun k_ => k_ ≠ gb597) (fun _ => False) rfl (by first | (go_simp; done) | (go_simp; rfl)) ?aP (fun _ hk => hk.elim) ?aF ?aO ?aB ?aS ?aL ?_; (case aP => exact k40_mkM _ _ _ (⟨(rd_T40 l0 x12_1).f0, (rd_T40 l0 x12_1).f1⟩ : S40)); (case aB => exact (by repeat (first | (with_reducible first | exact HB.out | apply below_alloc | apply pw_below_drewN | apply below_drew1 | refine below_set ?_ GE597.out) | exact HB.out))); (case aF => exact (fun k_ hk => Kd.freshB (g := gb597) (o := .cells #[.int .i64 ((rd_T40 l0 x12_1).f0), .int .i64 ((rd_T40 l0 x12_1).f1)] 40 (0, 0)) (by (with_reducible repeat (first | refine blk_drewN ?_ _ | refine blk_drew ?_ | refine blk_alloc ?_ _)); refine blk_put (cs := #[.int .i64 ((rd_T40 l0 x12_1).f0), .int .i64 0]) ?_ 1 _ rfl; (with_reducible repeat (first | refine blk_drewN ?_ _ | refine blk_drew ?_ | refine blk_alloc ?_ _)); refine blk_put (cs := #[.int .i64 0, .int .i64 0]) ?_ 0 _ rfl; (with_reducible repeat (first | refine blk_drewN ?_ _ | refine blk_drew ?_ | refine blk_alloc ?_ _)); exact BK597.out) k_ hk)); (case aO => exact (by (with_reducible repeat (first | apply Kd.R_alloc | apply Kd.R_drewN | apply Kd.R_drew)); exact Kd.R_mono (Kd.R_far (p := ⟨gb597, 1, none⟩) (Kd.R_far (p := ⟨gb597, 0, none⟩) (Kd.R_mono HO_7.out (fun k_ hk => (⟨hk, hk.2⟩ : _ ∧ k_ ≠ gb597))) (fun _ hk => hk.2) (.int .i64 ((rd_T40 l0 x12_1).f0))) (fun _ hk => hk.2) (.int .i64 ((rd_T40 l0 x12_1).f1))) (fun _ hk => hk.1.2))); (case aS => exact (below_size (by repeat (first | (with_reducible first | exact HB.out | apply below_alloc | apply pw_below_drewN | apply below_drew1 | refine below_set ?_ GE597.out) | exact HB.out)))); (case aL => have := LMc9.out; omega); intro v599 w12 ho hb hg hat; rw [← Ny598.out] at ho; have n0_ := Aside0.mk (blk_grown (g := gb597) (o := .cells #[.int .i64 ((rd_T40 l0 x12_1).f0), .int .i64 ((rd_T40 l0 x12_1).f1)] 40 (0, 0)) (by (with_reducible repeat (first | refine blk_drewN ?_ _ | refine blk_drew ?_ | refine blk_alloc ?_ _)); refine blk_put (cs := #[.int .i64 ((rd_T40 l0 x12_1).f0), .int .i64 0]) ?_ 1 _ rfl; (with_reducible repeat (first | refine blk_drewN ?_ _ | refine blk_drew ?_ | refine blk_alloc ?_ _)); refine blk_put (cs := #[.int .i64 0, .int .i64 0]) ?_ 0 _ rfl; (with_reducible repeat (first | refine blk_drewN ?_ _ | refine blk_drew ?_ | refine blk_alloc ?_ _)); exact BK597.out) hg (Kd.R_away HO_7.out (fun _ hk => hk.2))); have n1_ := Aside0.mk (hb); have n2_ := Aside0.mk (ho); clear BK597; clear HB; clear HO_7; have BK597 := n0_; have HB := n1_; have HO600 := n2_; clear n0_ n1_ n2_; clear ho hb hg hat))
                  go_roundg k1
                  case measure => have := HK1.out; omega
                  case rel => exact ⟨(y598), (wrap64 (x12_1 + 1)), (by first | rfl | (simp; done) | (simp [*]; done)), H', ⟨by have := HK1.out; omega⟩, ⟨by (with_reducible repeat (first | apply Kd.R_alloc | apply Kd.R_drewN | apply Kd.R_drew)); exact Kd.R_mono HO600.out (fun _ hk => trivial)⟩, ⟨by repeat (first | (with_reducible first | exact HB.out | apply below_alloc | apply pw_below_drewN | apply below_drew1 | refine below_set ?_ GE597.out) | exact HB.out)⟩⟩
                · rw [if_neg c9] at H
                  exact absurd H (by simp)
              · rw [if_neg c8] at H
                have c8b0 : decide (((rd_T40 l0 x12_1).f0) ≤ a2) = false := decide_eq_false c8
                clear c8
                have H' := Aside0.mk H
                clear H
                have p596 : 0 ≤ (x12_1 : Int) := of_decide_eq_true (by first | (with_reducible assumption) | assumption)
                have q596 : x12_1 < (l0.length : Int) := of_decide_eq_true (by first | (with_reducible assumption) | assumption)
                obtain ⟨ad596, e596, hx596_0, hx596_1⟩ := at_T40 HR0.out x12_1 p596 q596
                cases e596
                replace hx596_0 := (HB.out.cell (World.block_lt_of_cell? w _ hx596_0)).trans hx596_0
                replace hx596_1 := (HB.out.cell (World.block_lt_of_cell? w _ hx596_1)).trans hx596_1
                replace p596 := eq_true p596
                replace q596 := eq_true q596
                go_wp2_with (first | ((with_reducible refine gate_dst (N := 9) rfl ?_); refine box_event ?hg (N := 9) ?hd (cs := #[.int .i64 0, .int .i64 0]) (t := 40) ?hr ?_; (case hd => rfl); (case hg => rfl); (case hr => first | (go_simp; done) | (go_simp; rfl)); intro gb597 hg w13 hbox hb; have n0_ := Aside0.mk (Kd.R_below (Kd.R_elderB (by (with_reducible repeat (first | apply Kd.R_alloc | apply Kd.R_drewN | apply Kd.R_drew)); exact HO_7.out) gb597 (Nat.le_of_eq hg.symm)) hb); have n1_ := Aside0.mk (below_step (by repeat (first | (with_reducible first | exact HB.out | apply below_alloc | apply pw_below_drewN | apply below_drew1) | exact HB.out)) hb); have n2_ := Aside0.mk (hbox); have n3_ := Aside0.mk ((by rw [hg]; exact (below_size (by repeat (first | (with_reducible first | exact HB.out | apply below_alloc | apply pw_below_drewN | apply below_drew1) | exact HB.out))) : w.heap.size ≤ gb597)); have n4_ := Aside0.mk ((by rw [hg]; exact (below_size (by repeat (first | (with_reducible first | exact HB.out | apply below_alloc | apply pw_below_drewN | apply below_drew1) | exact HB.out))) : w.heap.size ≤ gb597)); clear HO_7; clear HB; have HO_7 := n0_; have HB := n1_; have BK597 := n2_; have GW597 := n3_; have GE597 := n4_; clear n0_ n1_ n2_ n3_ n4_; clear hb hbox hg; have hcz14_0 : w13.cell? ⟨gb597, 0, none⟩ = some (.int .i64 0) := (blk_cell BK597.out 0).trans rfl; have hcz14_1 : w13.cell? ⟨gb597, 1, none⟩ = some (.int .i64 0) := (blk_cell BK597.out 1).trans rfl; have hfz14_0 := blk_frozen BK597.out 0; have hfz14_1 := blk_frozen BK597.out 1))
                go_roundg k1
                case measure => have := HK1.out; omega
                case rel => exact ⟨(x7_1), (wrap64 (x12_1 + 1)), (by first | rfl | (simp; done) | (simp [*]; done)), H', ⟨by have := HK1.out; omega⟩, ⟨by (with_reducible repeat (first | apply Kd.R_alloc | apply Kd.R_drewN | apply Kd.R_drew)); exact Kd.R_mono (Kd.R_far (p := ⟨gb597, 1, none⟩) (Kd.R_far (p := ⟨gb597, 0, none⟩) (Kd.R_mono HO_7.out (fun k_ hk => (⟨hk, hk.2⟩ : _ ∧ k_ ≠ gb597))) (fun _ hk => hk.2) (.int .i64 ((rd_T40 l0 x12_1).f0))) (fun _ hk => hk.2) (.int .i64 ((rd_T40 l0 x12_1).f1))) (fun _ hk => trivial)⟩, ⟨by repeat (first | (with_reducible first | exact HB.out | apply below_alloc | apply pw_below_drewN | apply below_drew1 | refine below_set ?_ GE597.out) | exact HB.out)⟩⟩
            · rw [if_neg c7] at H
              have c7b0 : decide (a1 ≤ ((rd_T40 l0 x12_1).f0)) = false := decide_eq_false c7
              clear c7
              have H' := Aside0.mk H
              clear H
              have p596 : 0 ≤ (x12_1 : Int) := of_decide_eq_true (by first | (with_reducible assumption) | assumption)
              have q596 : x12_1 < (l0.length : Int) := of_decide_eq_true (by first | (with_reducible assumption) | assumption)
              obtain ⟨ad596, e596, hx596_0, hx596_1⟩ := at_T40 HR0.out x12_1 p596 q596
              cases e596
              replace hx596_0 := (HB.out.cell (World.block_lt_of_cell? w _ hx596_0)).trans hx596_0
              replace hx596_1 := (HB.out.cell (World.block_lt_of_cell? w _ hx596_1)).trans hx596_1
              replace p596 := eq_true p596
              replace q596 := eq_true q596
              go_wp2_with (first | ((with_reducible refine gate_dst (N := 9) rfl ?_); refine box_event ?hg (N := 9) ?hd (cs := #[.int .i64 0, .int .i64 0]) (t := 40) ?hr ?_; (case hd => rfl); (case hg => rfl); (case hr => first | (go_simp; done) | (go_simp; rfl)); intro gb597 hg w15 hbox hb; have n0_ := Aside0.mk (Kd.R_below (Kd.R_elderB (by (with_reducible repeat (first | apply Kd.R_alloc | apply Kd.R_drewN | apply Kd.R_drew)); exact HO_7.out) gb597 (Nat.le_of_eq hg.symm)) hb); have n1_ := Aside0.mk (below_step (by repeat (first | (with_reducible first | exact HB.out | apply below_alloc | apply pw_below_drewN | apply below_drew1) | exact HB.out)) hb); have n2_ := Aside0.mk (hbox); have n3_ := Aside0.mk ((by rw [hg]; exact (below_size (by repeat (first | (with_reducible first | exact HB.out | apply below_alloc | apply pw_below_drewN | apply below_drew1) | exact HB.out))) : w.heap.size ≤ gb597)); have n4_ := Aside0.mk ((by rw [hg]; exact (below_size (by repeat (first | (with_reducible first | exact HB.out | apply below_alloc | apply pw_below_drewN | apply below_drew1) | exact HB.out))) : w.heap.size ≤ gb597)); clear HO_7; clear HB; have HO_7 := n0_; have HB := n1_; have BK597 := n2_; have GW597 := n3_; have GE597 := n4_; clear n0_ n1_ n2_ n3_ n4_; clear hb hbox hg; have hcz16_0 : w15.cell? ⟨gb597, 0, none⟩ = some (.int .i64 0) := (blk_cell BK597.out 0).trans rfl; have hcz16_1 : w15.cell? ⟨gb597, 1, none⟩ = some (.int .i64 0) := (blk_cell BK597.out 1).trans rfl; have hfz16_0 := blk_frozen BK597.out 0; have hfz16_1 := blk_frozen BK597.out 1))
              go_roundg k1
              case measure => have := HK1.out; omega
              case rel => exact ⟨(x7_1), (wrap64 (x12_1 + 1)), (by first | rfl | (simp; done) | (simp [*]; done)), H', ⟨by have := HK1.out; omega⟩, ⟨by (with_reducible repeat (first | apply Kd.R_alloc | apply Kd.R_drewN | apply Kd.R_drew)); exact Kd.R_mono (Kd.R_far (p := ⟨gb597, 1, none⟩) (Kd.R_far (p := ⟨gb597, 0, none⟩) (Kd.R_mono HO_7.out (fun k_ hk => (⟨hk, hk.2⟩ : _ ∧ k_ ≠ gb597))) (fun _ hk => hk.2) (.int .i64 ((rd_T40 l0 x12_1).f0))) (fun _ hk => hk.2) (.int .i64 ((rd_T40 l0 x12_1).f1))) (fun _ hk => trivial)⟩, ⟨by repeat (first | (with_reducible first | exact HB.out | apply below_alloc | apply pw_below_drewN | apply below_drew1 | refine below_set ?_ GE597.out) | exact HB.out)⟩⟩
          · rw [if_neg c6] at H
            exact absurd H (by simp)
        · rw [if_neg c5] at H
          exact absurd H (by simp)
      · rw [if_neg c4] at H
        have c4b0 : decide (x12_1 < (l0.length : Int)) = false := decide_eq_false c4
        clear c4
        obtain rfl := Option.some.inj H
        go_wp2
        go_ret
        exact ⟨_, by first | rfl | (simp [errW_none, errW_some] <;> rfl) | (simp [*, errW_none, errW_some] <;> rfl), by (with_reducible repeat (first | apply Kd.R_alloc | apply Kd.R_drewN | apply Kd.R_drew)); exact HO_7.out, by repeat (first | (with_reducible first | exact HB.out | apply below_alloc | apply pw_below_drewN | apply below_drew1) | exact HB.out)⟩

/-- Without the elements from a1 on up to a2 (one at least). -/
def leaf_Pair_108.f (l0 : List S40) (a1 a2 : Int) : Option (List S40) := if 0 ≤ a1 ∧ a1 < a2 ∧ a2 ≤ (l0.length : Int) then some (l0.take a1.toNat ++ l0.drop a2.toNat) else none
set_option maxHeartbeats 4000000 in
set_option maxRecDepth 100000 in
theorem leaf_Pair_108.low (g n cap i j : Nat) (cur : Array Value) (w : World) (hg : w.heap[g]? = some (.cells cur 40 (0, 0))) (hsz : cur.size = ((cap) * 2)) (hn : n ≤ cap) (hm : cap ≤ 9223372036854775807) (hij : i < j) (hj : j ≤ n) (h1 : ∀ u ∈ cur.toList.take ((n) * 2), u.oneCell' = true) :
    Calls Try.prog 108 #[.slice (some ⟨g, 0, none⟩) n cap, .int .i64 i, .int .i64 j] w fun e w' => e = .returned (.slice (some ⟨g, 0, none⟩) (i + (n - j)) cap) ∧ w' = (w.drew.setCells g ((i) * 2) ((cur.toList.take ((n) * 2)).drop ((j) * 2))).setCells g (((i + (n - j)) * 2)) (Builtin.zeroCells (Value.agg #[.int .i64 0, .int .i64 0]).cells (n - (i + (n - j)))).toList := by
  obtain ⟨i0, hi0, _, hz1, _⟩ := info_parts info40
  obtain ⟨news, hnews⟩ : ∃ news, news = (cur.toList.take ((n) * 2)).drop ((j) * 2) := ⟨_, rfl⟩
  have hlen : news.length = ((n - j) * 2) := by rw [hnews]; simp; omega
  obtain ⟨A, hA, hsrc⟩ : ∃ A : Addr, (if cap = j then some (⟨g, 0, none⟩ : Addr) else some ⟨g, ((j) * 2), none⟩) = some A ∧ Hid (∀ t u, news[t]? = some u → w.drew.cell? (A.add t) = some u) := by
    by_cases h : cap = j
    · refine ⟨⟨g, 0, none⟩, by simp [h], Lib.hid fun t u hu => ?_⟩
      have h0 : news.length = 0 := by rw [hlen]; omega
      rw [List.length_eq_zero_iff.1 h0] at hu
      simp at hu
    · refine ⟨⟨g, ((j) * 2), none⟩, by simp [h], Lib.hid fun t u hu => ?_⟩
      rw [add_lit']
      show w.cell? _ = _
      rw [cells_cell hg]
      rw [hnews, List.getElem?_drop, List.getElem?_take] at hu
      split at hu
      · exact hu
      · cases hu
  have s1 : Hid (news.length = ((n - j) * 2)) := Lib.hid hlen
  have s2 : Hid (∀ u ∈ news, u.oneCell' = true) := Lib.hid (by
    intro u hu
    rw [hnews] at hu
    exact h1 u (List.mem_of_mem_drop hu))
  have s3 : Hid (∀ t, t < news.length → (w.drew.cell? ⟨g, 0 + ((i) * 2) + t, none⟩).isSome = true ∧ w.drew.frozen? ⟨g, 0 + ((i) * 2) + t, none⟩ = false) := Lib.hid (by
    intro t ht
    rw [hlen] at ht
    exact ⟨cells_some (w := w) hg (by omega), cells_free (w := w) hg _⟩)
  obtain ⟨W1, hW1⟩ : ∃ W1, W1 = w.drew.setCells g (0 + ((i) * 2)) news := ⟨_, rfl⟩
  obtain ⟨cur1, g1, g2, _⟩ := setCells_heap_at g news (0 + ((i) * 2)) w.drew cur 40 (0, 0) hg (by rw [hlen]; omega)
  rw [← hW1] at g1
  have hcl : ∀ ty c, (Builtin.clear_ #[34] ty #[.slice (some ⟨g, ((i + (n - j)) * 2), none⟩) (n - (i + (n - j))) c]).run Try.prog W1 = .ok (.tuple #[]) (W1.setCells g (((i + (n - j)) * 2)) (Builtin.zeroCells (Value.agg #[.int .i64 0, .int .i64 0]).cells (n - (i + (n - j)))).toList) :=
    fun ty c => run_clear_cells W1 34 40 ty (Value.agg #[.int .i64 0, .int .i64 0]) Try.underlying34 Try.zeroValue40 g _ _ c (by omega) (zeroCells_one _ _ (by simp [Value.cells, Value.oneCell'])) (fun t ht => cells_some g1 (by rw [zeroCells_len] at ht; simp [Value.cells] at ht; omega)) (fun t _ => cells_free g1 _)
  have hW : Hid (W1 = w.drew.setCells g (0 + ((i) * 2)) news) := Lib.hid hW1
  have hic : i ≤ cap := by omega
  have hjc : j ≤ cap := by omega
  rw [← hnews]
  rw [show w.drew.setCells g ((i) * 2) news = W1 from by rw [hW1, Nat.zero_add]]
  clear hW1 hnews hlen g1 g2 hg hsz h1
  go_enter Try.func108, Try.ntmps108
  go_wp2_with fail
  go_region_law (refine step_append_room rfl (.tmp 22) (.tmp 25) 34 rfl 40 i0 2 Try.underlying34 hi0 hz1 g 0 i cap (by simp [Act.eval, Act.put]) A (n - j) (cap - j) news (by simp [Act.eval, Act.put]) (by have := s1.out; omega) hsrc.out s2.out (by omega) (by have := s3.out; (try simp only [Nat.mul_one]); exact this) ?_; (try simp only [Nat.mul_one]); rw [← hW.out])
  go_wp2
  go_ret
  exact ⟨rfl, rfl⟩
set_option maxHeartbeats 1000000 in
theorem leaf_Pair_108.calls (P0_ : Nat → Prop) (u9000_ : Value) (l0 : List S40) (a1 : Int) (a2 : Int) (r : List S40) (w0 w : World) (hB : Below w0.heap.size w0 w) (ho0 : Kd.R k40 40 w w0.heap.size P0_ u9000_ l0) (h : leaf_Pair_108.f l0 a1 a2 = some r) :
    Calls Try.prog 108 #[u9000_, .int .i64 a1, .int .i64 a2] w fun e w' => ∃ v0_ : Value, e = .returned v0_ ∧ Kd.R k40 40 w' w0.heap.size (fun k_ => (P0_ k_ ∨ w.heap.size ≤ k_)) v0_ r ∧ Below w0.heap.size w0 w' ∧ Kept w w' (fun k_ => P0_ k_) := by
  unfold leaf_Pair_108.f at h
  split at h
  · rename_i hc
    obtain ⟨h0, h1, h2⟩ := hc
    obtain rfl := Option.some.inj h
    obtain ⟨i, rfl⟩ := Int.eq_ofNat_of_zero_le h0
    obtain ⟨j, rfl⟩ := Int.eq_ofNat_of_zero_le (show 0 ≤ a2 by omega)
    rw [Int.toNat_natCast, Int.toNat_natCast]
    obtain ⟨hok, hl, ho⟩ := (R_iff flat40).1 ho0
    rcases ho with ⟨rfl, hz⟩ | ⟨g, cap, cur, rfl, hb, hg, hn, hm, hs, ht⟩
    · omega
    · have hP : P0_ g := hok g rfl
      have hs' : cur.size = cap * 2 := hs
      have ht' : cur.toList.take (l0.length * 2) = l0.flatMap enc40 := ht
      have hij : i < j := by omega
      have hjl : j ≤ l0.length := by omega
      have hm' : cap ≤ 9223372036854775807 := by simpa [maxLen] using hm
      have hlow : Calls Try.prog 108 #[.slice (some ⟨g, 0, none⟩) l0.length cap, .int .i64 i, .int .i64 j] w fun e w' => e = .returned (.slice (some ⟨g, 0, none⟩) (i + (l0.length - j)) cap) ∧ w' = (w.drew.setCells g (i * 2) ((cur.toList.take (l0.length * 2)).drop (j * 2))).setCells g ((i + (l0.length - j)) * 2) (Builtin.zeroCells (Value.agg #[.int .i64 0, .int .i64 0]).cells (l0.length - (i + (l0.length - j)))).toList := by
        have hones : ∀ u ∈ cur.toList.take (l0.length * 2), u.oneCell' = true := by rw [ht']; exact Flat.ones flat40 l0
        (try simp only [Nat.mul_one] at hones hs' ⊢)
        exact leaf_Pair_108.low g l0.length cap i j cur w hg hs' hn hm' hij hjl hones
      refine hlow.mono ?_
      rintro e w' ⟨rfl, rfl⟩
      rw [ht']
      obtain ⟨cur1, g1, g2, g3⟩ := setCells_heap_at g ((l0.flatMap enc40).drop (j * 2)) (i * 2) w.drew cur 40 (0, 0) hg (by rw [List.length_drop, flatMap_length flat40, hs']; show i * 2 + (l0.length * 2 - j * 2) ≤ _; omega)
      obtain ⟨cur2, k1, k2, k3⟩ := setCells_heap_at g (Builtin.zeroCells (Value.agg #[.int .i64 0, .int .i64 0]).cells (l0.length - (i + (l0.length - j)))).toList ((i + (l0.length - j)) * 2) _ cur1 40 (0, 0) g1 (by rw [zeroCells_len, g2, hs']; simp [Value.cells]; omega)
      have hlen : (l0.take i ++ l0.drop j).length = i + (l0.length - j) := by simp; omega
      have hcells : cur2.toList.take ((i + (l0.length - j)) * 2) = (l0.take i ++ l0.drop j).flatMap enc40 := by
        have e1 : ((l0.flatMap enc40).drop (j * 2)) = (l0.drop j).flatMap enc40 := flatMap_drop flat40 l0 j
        have e2 : cur.toList.take (i * 2) = (l0.take i).flatMap enc40 := by
          have : (l0.flatMap enc40).take (i * 2) = (l0.take i).flatMap enc40 := flatMap_take flat40 l0 i
          rw [← this, ← ht', List.take_take]
          congr 1
          omega
        have e3 : ((l0.drop j).flatMap enc40).length = (l0.length - j) * 2 := by rw [flatMap_length flat40, List.length_drop]; rfl
        have e5 : cur1.toList.length = cap * 2 := by simp [g2, hs']
        rw [k3, List.append_assoc, List.take_append_of_le_length (by rw [List.length_take, e5]; omega), List.take_take, Nat.min_self, g3, e1, e2, List.flatMap_append]
        have e4 : ((l0.take i).flatMap enc40 ++ (l0.drop j).flatMap enc40).length = (i + (l0.length - j)) * 2 := by
          rw [← List.flatMap_append, flatMap_length flat40, hlen]; rfl
        exact List.take_left' e4
      refine ⟨_, rfl, (R_iff flat40).2 ⟨fun k hk => ?_, by rw [flatMap_length flat40], .inr ⟨g, cap, cur2, by rw [hlen], hb, k1, by rw [hlen]; omega, hm, by rw [k2, g2]; exact hs, by rw [hlen]; exact hcells⟩⟩, ?_, ?_⟩
      · have : g = k := by simpa [Value.ownBlock] using hk
        subst this
        exact .inl hP
      · exact bel_setCells (bel_setCells (below_drew1 hB) hb _ _) hb _ _
      · exact kep_setCells (kep_setCells (Kept.drew (Kept.refl w _)) hP _ _) hP _ _
  · cases h

def leaf_Leaf_Cut.f (l0 : List (S40)) (a1 : Int) : Option ((List (S40)) × Int × Bool) := (leaf_Leaf_find.f l0 a1).bind fun bt609 => ((leaf_Pair_99.f l0).bind fun t611 => (if bt609.2 = true then ((leaf_Pair_108.f t611 bt609.1 (wrap64 (bt609.1 + 1))).bind fun t614 => (if 0 ≤ bt609.1 then (if bt609.1 < (l0.length : Int) then (some (t614, (rd_T40 l0 bt609.1).f1, true)) else (none)) else (none))) else (some (t611, 0, false))))
def leaf_Leaf_Cut.T5 : Bool × List (List Nat × List Nat) := (true, [([], []), ([], []), ([], []), ([2], [2]), ([0, 1, 3], [0, 1, 3]), ([], []), ([], []), ([5, 6], [5, 6]), ([7], [7]), ([8], [8]), ([4, 4, 0, 1, 2, 3, 4], [4]), ([9, 10, 0, 1, 2, 3, 4, 5, 6, 7, 8, 9, 10], [9]), ([11, 0, 1, 2, 3, 4, 5, 6, 7, 8, 9, 10, 11], [])])
def leaf_Leaf_Cut.B5 : List Nat := [0, 0, 0, 4, 15, 0, 0, 96, 224, 480, 31, 2047, 4095]
theorem leaf_Leaf_Cut.tab5 : rtab .any (opsOf Try.f66 5) = leaf_Leaf_Cut.T5 := by kernel_rfl
theorem leaf_Leaf_Cut.bits5 : waitsOk leaf_Leaf_Cut.T5.2 leaf_Leaf_Cut.B5 = true := by kernel_rfl
set_option maxHeartbeats 8000000 in
set_option maxRecDepth 100000 in
theorem leaf_Leaf_Cut.calls (A0 : Option Addr) (c0 : Nat) (l0 : List (S40)) (a1 : Int) (r1 : List (S40)) (r2 : Int) (r3 : Bool) (w : World) (hr0 : Kd.C k40 w A0 l0.length l0) (hc0 : l0.length ≤ c0) (h : leaf_Leaf_Cut.f l0 a1 = some (r1, r2, r3)) :
    Calls Try.prog 66 #[.slice A0 l0.length c0, .int .i64 a1] w fun e w' => ∃ v0_ : Value, e = .returned (.tuple #[v0_, .int .i64 r2, .bool r3]) ∧ Kd.R k40 40 w' w.heap.size (fun _ => True) v0_ r1 ∧ Below w.heap.size w w' := by
  have HR0 := Aside0.mk hr0
  have HC0 := Aside0.mk hc0
  clear hr0 hc0
  have HB := Aside0.mk (Below.refl w.heap.size w)
  have H : ((leaf_Leaf_find.f l0 a1).bind fun bt609 => ((leaf_Pair_99.f l0).bind fun t611 => (if bt609.2 = true then ((leaf_Pair_108.f t611 bt609.1 (wrap64 (bt609.1 + 1))).bind fun t614 => (if 0 ≤ bt609.1 then (if bt609.1 < (l0.length : Int) then (some (t614, (rd_T40 l0 bt609.1).f1, true)) else (none)) else (none))) else (some (t611, 0, false))))) = some (r1, r2, r3) := h
  clear h
  replace H := Option.bind_eq_some_iff.mp H
  obtain ⟨⟨t609, t610⟩, A30, H⟩ := H
  replace H : ((leaf_Pair_99.f l0).bind fun t611 => (if t610 = true then ((leaf_Pair_108.f t611 t609 (wrap64 (t609 + 1))).bind fun t614 => (if 0 ≤ t609 then (if t609 < (l0.length : Int) then (some (t614, (rd_T40 l0 t609).f1, true)) else (none)) else (none))) else (some (t611, 0, false)))) = some (r1, r2, r3) := H
  have A3 := Aside0.mk A30
  clear A30
  replace H := Option.bind_eq_some_iff.mp H
  obtain ⟨t611, A40, H⟩ := H
  replace H : (if t610 = true then ((leaf_Pair_108.f t611 t609 (wrap64 (t609 + 1))).bind fun t614 => (if 0 ≤ t609 then (if t609 < (l0.length : Int) then (some (t614, (rd_T40 l0 t609).f1, true)) else (none)) else (none))) else (some (t611, 0, false))) = some (r1, r2, r3) := H
  have A4 := Aside0.mk A40
  clear A40
  by_cases c5 : t610 = true
  · subst c5
    have H1 : ((leaf_Pair_108.f t611 t609 (wrap64 (t609 + 1))).bind fun t614 => (if 0 ≤ t609 then (if t609 < (l0.length : Int) then (some (t614, (rd_T40 l0 t609).f1, true)) else (none)) else (none))) = some (r1, r2, r3) := by rw [if_pos rfl] at H; exact H
    clear H
    have H := H1
    clear H1
    replace H := Option.bind_eq_some_iff.mp H
    obtain ⟨t614, A60, H⟩ := H
    replace H : (if 0 ≤ t609 then (if t609 < (l0.length : Int) then (some (t614, (rd_T40 l0 t609).f1, true)) else (none)) else (none)) = some (r1, r2, r3) := H
    have A6 := Aside0.mk A60
    clear A60
    by_cases c7 : 0 ≤ t609
    · rw [if_pos c7] at H
      have c7b0 : decide (0 ≤ t609) = true := decide_eq_true c7
      clear c7
      by_cases c8 : t609 < (l0.length : Int)
      · rw [if_pos c8] at H
        have c8b0 : decide (t609 < (l0.length : Int)) = true := decide_eq_true c8
        clear c8
        simp only [Option.some.injEq, Prod.mk.injEq] at H
        obtain ⟨rfl, rfl, rfl⟩ := H
        go_enter Try.func66, Try.ntmps66
        try go_wp2_with (first | ((with_reducible refine gate_callee (f := 98) rfl ?_); refine goesL_ (some 13) rfl rfl Try.func98 (by kernel_rfl) rfl #[.slice A0 l0.length c0, .int .i64 a1] rfl (by (try simp only [List.map_toArray, List.map_cons, List.map_nil]); first | done | rfl | (simp only [List.length_drop, List.length_take]; rfl)) ?_; (with_reducible refine (leaf_Leaf_find.calls _ _ l0 a1 t609 true _ ?side1 ?side2 A3.out).mono ?_); (case side1 => repeat (first | exact HR0.out | (with_reducible refine Kd.C_alloc ?_ _) | (with_reducible refine Kd.C_drewN ?_ _) | (with_reducible refine Kd.C_drew ?_))); (case side2 => exact HC0.out); rintro e w9 ⟨rfl, hb⟩; refine ⟨_, rfl, ?_⟩; have n0_ := Aside0.mk (below_step (by repeat (first | (with_reducible first | exact HB.out | apply below_alloc | apply pw_below_drewN | apply below_drew1) | exact HB.out)) hb); clear HB; have HB := n0_; clear n0_; (try clear hb); (try clear hb2); (try clear hk); (try clear hi)) | ((with_reducible refine gate_callee (f := 99) rfl ?_); refine goesL_ (some 17) rfl rfl Try.func99 (by kernel_rfl) rfl #[.slice A0 l0.length c0] rfl (by (try simp only [List.map_toArray, List.map_cons, List.map_nil]); first | done | rfl | (simp only [List.length_drop, List.length_take]; rfl)) ?_; (with_reducible refine (leaf_Pair_99.calls _ _ l0 t611 _ ?side1 ?side2 A4.out).mono ?_); (case side1 => repeat (first | exact (Kd.C_below HR0.out HB.out) | (with_reducible refine Kd.C_alloc ?_ _) | (with_reducible refine Kd.C_drewN ?_ _) | (with_reducible refine Kd.C_drew ?_))); (case side2 => exact HC0.out); rintro e w10 ⟨v612, rfl, ho0, hb⟩; refine ⟨_, rfl, ?_⟩; have n0_ := Aside0.mk (Kd.R_lower ho0 (below_size (by repeat (first | (with_reducible first | exact HB.out | apply below_alloc | apply pw_below_drewN | apply below_drew1) | exact HB.out)))); have n1_ := Aside0.mk (below_step (by repeat (first | (with_reducible first | exact HB.out | apply below_alloc | apply pw_below_drewN | apply below_drew1) | exact HB.out)) hb); clear HB; have HO613 := n0_; have HB := n1_; clear n0_ n1_; (try clear hb); (try clear hb2); (try clear hk); (try clear hi); (try clear ho0)))
        have n0_ := Aside0.mk (Kd.R_drew HO613.out)
        have n1_ := Aside0.mk (below_drew1 HB.out)
        clear HO613
        clear HB
        have HO613 := n0_
        have HB := n1_
        clear n0_ n1_
        have p617 : 0 ≤ (t609 : Int) := of_decide_eq_true (by first | (with_reducible assumption) | assumption)
        have q617 : t609 < (l0.length : Int) := of_decide_eq_true (by first | (with_reducible assumption) | assumption)
        obtain ⟨ad617, e617, hx617_0, hx617_1⟩ := at_T40 HR0.out t609 p617 q617
        have hw617_1 := hx617_1
        have hw617_0 := hx617_0
        cases e617
        replace hx617_0 := (HB.out.cell (World.block_lt_of_cell? w _ hx617_0)).trans hx617_0
        replace hx617_1 := (HB.out.cell (World.block_lt_of_cell? w _ hx617_1)).trans hx617_1
        replace p617 := eq_true p617
        replace q617 := eq_true q617
        obtain ⟨Ao12, co12, eo12⟩ := Kd.R_slice HO613.out
        (first | subst eo12 | (injection eo12 with f1_ f2_ f3_; have f4_ := f1_.symm; have f5_ := f3_.symm; clear f1_ f2_ f3_; subst f4_; subst f5_))
        refine start_ (n := 13) (S := fun w' => w'.cell? (ad617.add ((t609).toNat * 2)) = some (.int .i64 ((rd_T40 l0 t609).f0)) ∧ w'.cell? ⟨(ad617.add ((t609).toNat * 2)).block, (ad617.add ((t609).toNat * 2)).off + 1, none⟩ = some (.int .i64 ((rd_T40 l0 t609).f1))) (ds := []) #[false, false, false, false, false, false, false, false, false, false, false, false, false] (by kernel_rfl) rfl rfl ⟨((HB.out.cell (World.block_lt_of_cell? w _ hw617_0)).trans hw617_0), ((HB.out.cell (World.block_lt_of_cell? w _ hw617_1)).trans hw617_1)⟩ (fun hHeld => ?_); refine with_tabW leaf_Leaf_Cut.tab5 leaf_Leaf_Cut.bits5 (fun HT_ HW_ => ?_)
        generalize w10.drew = w11 at HO613 HB hx617_0 hx617_1 hHeld ⊢
        refine pure_ (i := 0) (N := some 21) (v := ?_) (a' := ?_) #[true, false, false, false, false, false, false, false, false, false, false, false, false] rfl rfl (any_of HT_.out (by kernel_rfl)) (fun _ _ _ h => h) (Or.inl ⟨by rfl, ?_⟩) ?_ ?_
        rotate_left
        · intro w'
          go_simp
          with_reducible rfl
        rotate_left
        · simp only [Act.put, List.setIfInBounds_toArray, List.set_cons_zero, List.set_cons_succ, i64_w, i32_w]
          rfl
        refine pure_ (i := 1) (N := some 22) (v := ?_) (a' := ?_) #[true, true, false, false, false, false, false, false, false, false, false, false, false] rfl rfl (any_of HT_.out (by kernel_rfl)) (fun _ _ _ h => h) (Or.inl ⟨by rfl, ?_⟩) ?_ ?_
        rotate_left
        · intro w'
          go_simp
          with_reducible rfl
        rotate_left
        · simp only [Act.put, List.setIfInBounds_toArray, List.set_cons_zero, List.set_cons_succ, i64_w, i32_w]
          rfl
        refine pure_ (i := 2) (N := some 23) (v := ?_) (a' := ?_) #[true, true, true, false, false, false, false, false, false, false, false, false, false] rfl rfl (any_of HT_.out (by kernel_rfl)) (fun _ _ _ h => h) (Or.inl ⟨by rfl, ?_⟩) ?_ ?_
        rotate_left
        · intro w'
          go_simp
          with_reducible rfl
        rotate_left
        · simp only [Act.put, List.setIfInBounds_toArray, List.set_cons_zero, List.set_cons_succ, i64_w, i32_w]
          rfl
        refine pure_ (i := 3) (N := some 24) (v := ?_) (a' := ?_) #[true, true, true, true, false, false, false, false, false, false, false, false, false] rfl rfl (any_of HT_.out (by kernel_rfl)) (fun _ _ _ h => h) (Or.inl ⟨by rfl, ?_⟩) ?_ ?_
        rotate_left
        · intro w'
          go_simp
          with_reducible rfl
        rotate_left
        · simp only [Act.put, List.setIfInBounds_toArray, List.set_cons_zero, List.set_cons_succ, i64_w, i32_w]
          rfl
        refine pure_ (i := 5) (N := some 26) (v := ?_) (a' := ?_) #[true, true, true, true, false, true, false, false, false, false, false, false, false] rfl rfl (any_of HT_.out (by kernel_rfl)) (fun _ _ _ h => h) (Or.inl ⟨by rfl, ?_⟩) ?_ ?_
        rotate_left
        · intro w'
          go_simp
          with_reducible rfl
        rotate_left
        · simp only [Act.put, List.setIfInBounds_toArray, List.set_cons_zero, List.set_cons_succ, i64_w, i32_w]
          rfl
        refine pure_ (i := 6) (N := some 27) (v := ?_) (a' := ?_) #[true, true, true, true, false, true, true, false, false, false, false, false, false] rfl rfl (any_of HT_.out (by kernel_rfl)) (fun _ _ _ h => h) (Or.inl ⟨by rfl, ?_⟩) ?_ ?_
        rotate_left
        · intro w'
          go_simp
          with_reducible rfl
        rotate_left
        · simp only [Act.put, List.setIfInBounds_toArray, List.set_cons_zero, List.set_cons_succ, i64_w, i32_w]
          rfl
        refine pure_ (i := 7) (N := some 28) (v := ?_) (a' := ?_) #[true, true, true, true, false, true, true, true, false, false, false, false, false] rfl rfl (any_of HT_.out (by kernel_rfl)) (fun _ _ _ h => h) (Or.inl ⟨by rfl, ?_⟩) ?_ ?_
        rotate_left
        · intro w'
          go_simp
          with_reducible rfl
        rotate_left
        · simp only [Act.put, List.setIfInBounds_toArray, List.set_cons_zero, List.set_cons_succ, i64_w, i32_w]
          rfl
        refine pure_ (i := 8) (N := some 29) (v := ?_) (a' := ?_) #[true, true, true, true, false, true, true, true, true, false, false, false, false] rfl rfl (any_of HT_.out (by kernel_rfl)) (fun _ _ _ h => h) (Or.inl ⟨by rfl, ?_⟩) ?_ ?_
        rotate_left
        · intro w'
          go_simp
          with_reducible rfl
        rotate_left
        · simp only [Act.put, List.setIfInBounds_toArray, List.set_cons_zero, List.set_cons_succ, i64_w, i32_w]
          rfl
        refine take_ (i := 9) (N := some 30) (v := ?_) (a' := ?_) #[true, true, true, true, false, true, true, true, true, true, false, false, false] rfl rfl (take_ofW HT_.out HW_.out (by kernel_rfl)) (fun _ _ _ h => h) (Or.inl ⟨by rfl, ?_⟩) hHeld ?_ ?_
        rotate_left
        · rintro w' ⟨s0, s1⟩
          go_simp
          with_reducible rfl
        rotate_left
        · simp only [Act.put, List.setIfInBounds_toArray, List.set_cons_zero, List.set_cons_succ, i64_w, i32_w]
          rfl
        refine one_ (i := 4) (N := some 25) #[true, true, true, true, true, true, true, true, true, true, false, false, false] rfl rfl (one_of HT_.out (by kernel_rfl)) (by decide) (fun K hK => ?_)
        refine goes_ Try.func108 (by kernel_rfl) rfl #[.slice Ao12 t611.length co12, .int .i64 t609, .int .i64 (wrap64 (t609 + 1))] (by rfl) rfl rfl (by (try simp only [List.map_toArray, List.map_cons, List.map_nil]); first | done | rfl | (simp only [List.length_drop, List.length_take]; rfl)) ?_
        with_reducible refine (leaf_Pair_108.calls (fun k_ => some k_ = (.slice Ao12 t611.length co12 : Value).ownBlock) (.slice Ao12 t611.length co12) t611 t609 (wrap64 (t609 + 1)) t614 w _ ?side1 ?side2 A6.out).mono ?_
        (case side1 => repeat (first | (with_reducible first | exact HB.out | apply below_alloc | apply pw_below_drewN | apply below_drew1) | exact HB.out))
        (case side2 => exact Kd.R_tight rfl HO613.out)
        rintro e w13 ⟨v615, rfl, ho0, hb, hkp⟩
        refine ⟨_, rfl, ?_⟩
        have n0_ := Aside0.mk (Kd.R_mono (ok' := fun k_ => True) ho0 (fun k_ hk_ => trivial))
        have n1_ := Aside0.mk (hb)
        clear HB
        clear HO613
        have HO616 := n0_
        have HB := n1_
        clear n0_ n1_
        (try clear hb)
        (try clear hkp)
        (try clear ho0)
        refine hK.out _ _ ⟨((HB.out.cell (World.block_lt_of_cell? w _ hw617_0)).trans hw617_0), ((HB.out.cell (World.block_lt_of_cell? w _ hw617_1)).trans hw617_1)⟩ (fun hHeld => ?_)
        clear hK K
        refine norm_ (a' := ?_) ?_ ?_
        rotate_left
        · show Act.put _ (some 25) _ = _
          simp only [Act.put, List.setIfInBounds_toArray, List.set_cons_zero, List.set_cons_succ, i64_w, i32_w]
          rfl
        refine pure_ (i := 10) (N := some 4) (v := ?_) (a' := ?_) #[true, true, true, true, true, true, true, true, true, true, true, false, false] rfl rfl (any_of HT_.out (by kernel_rfl)) (fun _ _ _ h => h) (Or.inl ⟨by rfl, ?_⟩) ?_ ?_
        rotate_left
        · intro w'
          go_simp
          with_reducible rfl
        rotate_left
        · simp only [Act.put, List.setIfInBounds_toArray, List.set_cons_zero, List.set_cons_succ, i64_w, i32_w]
          rfl
        refine pure_ (i := 11) (N := some 5) (v := ?_) (a' := ?_) #[true, true, true, true, true, true, true, true, true, true, true, true, false] rfl rfl (any_of HT_.out (by kernel_rfl)) (fun _ _ _ h => h) (Or.inl ⟨by rfl, ?_⟩) ?_ ?_
        rotate_left
        · intro w'
          go_simp
          with_reducible rfl
        rotate_left
        · simp only [Act.put, List.setIfInBounds_toArray, List.set_cons_zero, List.set_cons_succ, i64_w, i32_w]
          rfl
        refine pure_ (i := 12) (N := some 6) (v := ?_) (a' := ?_) #[true, true, true, true, true, true, true, true, true, true, true, true, true] rfl rfl (any_of HT_.out (by kernel_rfl)) (fun _ _ _ h => h) (Or.inl ⟨by rfl, ?_⟩) ?_ ?_
        rotate_left
        · intro w'
          go_simp
          with_reducible rfl
        rotate_left
        · simp only [Act.put, List.setIfInBounds_toArray, List.set_cons_zero, List.set_cons_succ, i64_w, i32_w]
          rfl
        refine done_ (done_of HT_.out (by kernel_rfl)) ?_
        try go_wp2
        go_ret3
        exact ⟨_, by first | rfl | (simp [errW_none, errW_some] <;> rfl) | (simp [*, errW_none, errW_some] <;> rfl), by (with_reducible repeat (first | apply Kd.R_alloc | apply Kd.R_drewN | apply Kd.R_drew)); exact HO616.out, by repeat (first | (with_reducible first | exact HB.out | apply below_alloc | apply pw_below_drewN | apply below_drew1) | exact HB.out)⟩
      · rw [if_neg c8] at H
        exact absurd H (by simp)
    · rw [if_neg c7] at H
      exact absurd H (by simp)
  · replace c5 := Bool.eq_false_iff.mpr c5
    subst c5
    have H1 : (some (t611, 0, false)) = some (r1, r2, r3) := by rw [if_neg (show ¬ (false = true) by decide)] at H; exact H
    clear H
    have H := H1
    clear H1
    simp only [Option.some.injEq, Prod.mk.injEq] at H
    obtain ⟨rfl, rfl, rfl⟩ := H
    go_enter Try.func66, Try.ntmps66
    go_wp2_with (first | ((with_reducible refine gate_callee (f := 98) rfl ?_); refine goesL_ (some 13) rfl rfl Try.func98 (by kernel_rfl) rfl #[.slice A0 l0.length c0, .int .i64 a1] rfl (by (try simp only [List.map_toArray, List.map_cons, List.map_nil]); first | done | rfl | (simp only [List.length_drop, List.length_take]; rfl)) ?_; (with_reducible refine (leaf_Leaf_find.calls _ _ l0 a1 t609 false _ ?side1 ?side2 A3.out).mono ?_); (case side1 => repeat (first | exact HR0.out | (with_reducible refine Kd.C_alloc ?_ _) | (with_reducible refine Kd.C_drewN ?_ _) | (with_reducible refine Kd.C_drew ?_))); (case side2 => exact HC0.out); rintro e w14 ⟨rfl, hb⟩; refine ⟨_, rfl, ?_⟩; have n0_ := Aside0.mk (below_step (by repeat (first | (with_reducible first | exact HB.out | apply below_alloc | apply pw_below_drewN | apply below_drew1) | exact HB.out)) hb); clear HB; have HB := n0_; clear n0_; (try clear hb); (try clear hb2); (try clear hk); (try clear hi)) | ((with_reducible refine gate_callee (f := 99) rfl ?_); refine goesL_ (some 17) rfl rfl Try.func99 (by kernel_rfl) rfl #[.slice A0 l0.length c0] rfl (by (try simp only [List.map_toArray, List.map_cons, List.map_nil]); first | done | rfl | (simp only [List.length_drop, List.length_take]; rfl)) ?_; (with_reducible refine (leaf_Pair_99.calls _ _ l0 t611 _ ?side1 ?side2 A4.out).mono ?_); (case side1 => repeat (first | exact (Kd.C_below HR0.out HB.out) | (with_reducible refine Kd.C_alloc ?_ _) | (with_reducible refine Kd.C_drewN ?_ _) | (with_reducible refine Kd.C_drew ?_))); (case side2 => exact HC0.out); rintro e w15 ⟨v612, rfl, ho0, hb⟩; refine ⟨_, rfl, ?_⟩; have n0_ := Aside0.mk (Kd.R_lower ho0 (below_size (by repeat (first | (with_reducible first | exact HB.out | apply below_alloc | apply pw_below_drewN | apply below_drew1) | exact HB.out)))); have n1_ := Aside0.mk (below_step (by repeat (first | (with_reducible first | exact HB.out | apply below_alloc | apply pw_below_drewN | apply below_drew1) | exact HB.out)) hb); clear HB; have HO613 := n0_; have HB := n1_; clear n0_ n1_; (try clear hb); (try clear hb2); (try clear hk); (try clear hi); (try clear ho0)))
    go_ret3
    exact ⟨_, by first | rfl | (simp [errW_none, errW_some] <;> rfl) | (simp [*, errW_none, errW_some] <;> rfl), by (with_reducible repeat (first | apply Kd.R_alloc | apply Kd.R_drewN | apply Kd.R_drew)); exact HO613.out, by repeat (first | (with_reducible first | exact HB.out | apply below_alloc | apply pw_below_drewN | apply below_drew1) | exact HB.out)⟩

def boscagelaw02_Cut.l0 : Nat → Int → List (S40) → List (S40) → Int → Int → Option ((List (S40)))
  | 0, _, _, _, _, _ => none
  | k + 1, x1, x5, x8, x9, x10 => if x10 < x9 then (if 0 ≤ x10 then (if x10 < (x8.length : Int) then (if ((rd_T40 x8 x10).f0) = x1 then (boscagelaw02_Cut.l0 k x1 x5 x8 x9 (wrap64 (x10 + 1))) else (if x5.length < 8796093022208 then (boscagelaw02_Cut.l0 k x1 (x5 ++ [(⟨(rd_T40 x8 x10).f0, (rd_T40 x8 x10).f1⟩ : S40)]) x8 x9 (wrap64 (x10 + 1))) else (none))) else (none)) else (none)) else (some x5)
def boscagelaw02_Cut.f (k : Nat) (l0 : List (S40)) (a1 : Int) : Option ((List (S40))) := boscagelaw02_Cut.l0 k a1 ([] : List (S40)) l0 (l0.length : Int) 0
set_option maxHeartbeats 8000000 in
set_option maxRecDepth 100000 in
theorem boscagelaw02_Cut.calls (k : Nat) (A0 : Option Addr) (c0 : Nat) (l0 : List (S40)) (a1 : Int) (r : List (S40)) (w : World) (hr0 : Kd.C k40 w A0 l0.length l0) (hc0 : l0.length ≤ c0) (h : boscagelaw02_Cut.f k l0 a1 = some r) :
    Calls Try.prog 67 #[.slice A0 l0.length c0, .int .i64 a1] w fun e w' => ∃ v0_ : Value, e = .returned (v0_) ∧ Kd.R k40 40 w' w.heap.size (fun _ => True) v0_ r ∧ Below w.heap.size w w' := by
  have hu40 := Try.underlying40
  have HR0 := Aside0.mk hr0
  have HC0 := Aside0.mk hc0
  clear hr0 hc0
  have HB := Aside0.mk (Below.refl w.heap.size w)
  have H : (boscagelaw02_Cut.l0 k a1 ([] : List (S40)) l0 (l0.length : Int) 0) = some r := h
  clear h
  have H' := Aside0.mk H
  clear H
  go_enter Try.func67, Try.ntmps67
  go_wp2
  go_loopg [5, 10] k (fun kq v5 v10 w' => ∃ (x5_1 : List (S40)) (x10_1 : Int), v10 = .int .i64 x10_1 ∧ Aside0 (boscagelaw02_Cut.l0 kq a1 x5_1 l0 (l0.length : Int) x10_1 = some r) ∧ Aside0 (kq ≤ k) ∧ Aside0 (Kd.R k40 40 w' w.heap.size (fun _ => True) v5 x5_1) ∧ Aside0 (Below w.heap.size w w'))
  case atStart => exact ⟨(([] : List (S40))), (0), (by first | rfl | (simp; done) | (simp [*]; done)), H', ⟨Nat.le_refl _⟩, ⟨by first | exact Kd.R_nil _ _ _ _ _ | exact Kd.N_nil _ _ _ _ _ | exact Kd.V_nil _ _ _ _ _ | exact Kd.Q_nil _ _ _ _ _ | exact Kd.S_nil _ _ _ _ _⟩, ⟨by repeat (first | (with_reducible first | exact HB.out | apply below_alloc | apply pw_below_drewN | apply below_drew1) | exact HB.out)⟩⟩
  case round =>
    clear H'
    try clear p2
    obtain ⟨x5_1, x10_1, rfl, HA, HK1, HO_5, HB⟩ := hrel
    cases gk with
    | zero => exact absurd HA.out (by simp [boscagelaw02_Cut.l0])
    | succ k1 =>
      have H := HA.out
      clear HA
      simp only [boscagelaw02_Cut.l0] at H
      by_cases c3 : x10_1 < (l0.length : Int)
      · rw [if_pos c3] at H
        have c3b0 : decide (x10_1 < (l0.length : Int)) = true := decide_eq_true c3
        clear c3
        by_cases c4 : 0 ≤ x10_1
        · rw [if_pos c4] at H
          have c4b0 : decide (0 ≤ x10_1) = true := decide_eq_true c4
          clear c4
          by_cases c5 : x10_1 < (l0.length : Int)
          · rw [if_pos c5] at H
            have c5b0 : decide (x10_1 < (l0.length : Int)) = true := decide_eq_true c5
            clear c5
            by_cases c6 : ((rd_T40 l0 x10_1).f0) = a1
            · rw [if_pos c6] at H
              have c6b0 : (((rd_T40 l0 x10_1).f0) == a1) = true := beq_iff_eq.mpr c6
              have c6b1 : (((rd_T40 l0 x10_1).f0) != a1) = false := bne_eq_false_iff_eq.mpr c6
              clear c6
              have H' := Aside0.mk H
              clear H
              have p618 : 0 ≤ (x10_1 : Int) := of_decide_eq_true (by first | (with_reducible assumption) | assumption)
              have q618 : x10_1 < (l0.length : Int) := of_decide_eq_true (by first | (with_reducible assumption) | assumption)
              obtain ⟨ad618, e618, hx618_0, hx618_1⟩ := at_T40 HR0.out x10_1 p618 q618
              cases e618
              replace hx618_0 := (HB.out.cell (World.block_lt_of_cell? w _ hx618_0)).trans hx618_0
              replace hx618_1 := (HB.out.cell (World.block_lt_of_cell? w _ hx618_1)).trans hx618_1
              replace p618 := eq_true p618
              replace q618 := eq_true q618
              go_wp2_with (first | ((with_reducible refine gate_dst (N := 7) rfl ?_); refine box_event ?hg (N := 7) ?hd (cs := #[.int .i64 0, .int .i64 0]) (t := 40) ?hr ?_; (case hd => rfl); (case hg => rfl); (case hr => first | (go_simp; done) | (go_simp; rfl)); intro gb619 hg w7 hbox hb; have n0_ := Aside0.mk (Kd.R_below (Kd.R_elderB (by (with_reducible repeat (first | apply Kd.R_alloc | apply Kd.R_drewN | apply Kd.R_drew)); exact HO_5.out) gb619 (Nat.le_of_eq hg.symm)) hb); have n1_ := Aside0.mk (below_step (by repeat (first | (with_reducible first | exact HB.out | apply below_alloc | apply pw_below_drewN | apply below_drew1) | exact HB.out)) hb); have n2_ := Aside0.mk (hbox); have n3_ := Aside0.mk ((by rw [hg]; exact (below_size (by repeat (first | (with_reducible first | exact HB.out | apply below_alloc | apply pw_below_drewN | apply below_drew1) | exact HB.out))) : w.heap.size ≤ gb619)); have n4_ := Aside0.mk ((by rw [hg]; exact (below_size (by repeat (first | (with_reducible first | exact HB.out | apply below_alloc | apply pw_below_drewN | apply below_drew1) | exact HB.out))) : w.heap.size ≤ gb619)); clear HO_5; clear HB; have HO_5 := n0_; have HB := n1_; have BK619 := n2_; have GW619 := n3_; have GE619 := n4_; clear n0_ n1_ n2_ n3_ n4_; clear hb hbox hg; have hcz8_0 : w7.cell? ⟨gb619, 0, none⟩ = some (.int .i64 0) := (blk_cell BK619.out 0).trans rfl; have hcz8_1 : w7.cell? ⟨gb619, 1, none⟩ = some (.int .i64 0) := (blk_cell BK619.out 1).trans rfl; have hfz8_0 := blk_frozen BK619.out 0; have hfz8_1 := blk_frozen BK619.out 1))
              go_roundg k1
              case measure => have := HK1.out; omega
              case rel => exact ⟨(x5_1), (wrap64 (x10_1 + 1)), (by first | rfl | (simp; done) | (simp [*]; done)), H', ⟨by have := HK1.out; omega⟩, ⟨by (with_reducible repeat (first | apply Kd.R_alloc | apply Kd.R_drewN | apply Kd.R_drew)); exact Kd.R_mono (Kd.R_far (p := ⟨gb619, 1, none⟩) (Kd.R_far (p := ⟨gb619, 0, none⟩) (Kd.R_mono HO_5.out (fun k_ hk => (⟨hk, hk.2⟩ : _ ∧ k_ ≠ gb619))) (fun _ hk => hk.2) (.int .i64 ((rd_T40 l0 x10_1).f0))) (fun _ hk => hk.2) (.int .i64 ((rd_T40 l0 x10_1).f1))) (fun _ hk => trivial)⟩, ⟨by repeat (first | (with_reducible first | exact HB.out | apply below_alloc | apply pw_below_drewN | apply below_drew1 | refine below_set ?_ GE619.out) | exact HB.out)⟩⟩
            · rw [if_neg c6] at H
              have c6b0 : (((rd_T40 l0 x10_1).f0) == a1) = false := beq_eq_false_iff_ne.mpr c6
              have c6b1 : (((rd_T40 l0 x10_1).f0) != a1) = true := bne_iff_ne.mpr c6
              by_cases c9 : x5_1.length < 8796093022208
              · rw [if_pos c9] at H
                have LMc9 := Aside0.mk c9
                clear c9
                obtain ⟨y620, hy620⟩ : ∃ y_ : List (S40), y_ = (x5_1 ++ [(⟨(rd_T40 l0 x10_1).f0, (rd_T40 l0 x10_1).f1⟩ : S40)]) := ⟨_, rfl⟩
                replace H : (boscagelaw02_Cut.l0 k1 a1 y620 l0 (l0.length : Int) (wrap64 (x10_1 + 1))) = some r := by first | (rw [hy620]; with_reducible exact H) | (have H2_ := (Option.bind_some _ _).symm.trans H; rw [hy620]; with_reducible exact H2_) | (have H2_ := (Option.bind_some _ _).symm.trans H; with_reducible exact H2_) | with_reducible exact H | (rw [hy620]; exact H) | exact H
                have Ny620 := Aside0.mk hy620
                clear hy620
                have H' := Aside0.mk H
                clear H
                have p618 : 0 ≤ (x10_1 : Int) := of_decide_eq_true (by first | (with_reducible assumption) | assumption)
                have q618 : x10_1 < (l0.length : Int) := of_decide_eq_true (by first | (with_reducible assumption) | assumption)
                obtain ⟨ad618, e618, hx618_0, hx618_1⟩ := at_T40 HR0.out x10_1 p618 q618
                cases e618
                replace hx618_0 := (HB.out.cell (World.block_lt_of_cell? w _ hx618_0)).trans hx618_0
                replace hx618_1 := (HB.out.cell (World.block_lt_of_cell? w _ hx618_1)).trans hx618_1
                replace p618 := eq_true p618
                replace q618 := eq_true q618
                go_wp2_with (first | ((with_reducible refine gate_dst (N := 7) rfl ?_); refine box_event ?hg (N := 7) ?hd (cs := #[.int .i64 0, .int .i64 0]) (t := 40) ?hr ?_; (case hd => rfl); (case hg => rfl); (case hr => first | (go_simp; done) | (go_simp; rfl)); intro gb619 hg w10 hbox hb; have n0_ := Aside0.mk (Kd.R_below (Kd.R_elderB (by (with_reducible repeat (first | apply Kd.R_alloc | apply Kd.R_drewN | apply Kd.R_drew)); exact HO_5.out) gb619 (Nat.le_of_eq hg.symm)) hb); have n1_ := Aside0.mk (below_step (by repeat (first | (with_reducible first | exact HB.out | apply below_alloc | apply pw_below_drewN | apply below_drew1) | exact HB.out)) hb); have n2_ := Aside0.mk (hbox); have n3_ := Aside0.mk ((by rw [hg]; exact (below_size (by repeat (first | (with_reducible first | exact HB.out | apply below_alloc | apply pw_below_drewN | apply below_drew1) | exact HB.out))) : w.heap.size ≤ gb619)); have n4_ := Aside0.mk ((by rw [hg]; exact (below_size (by repeat (first | (with_reducible first | exact HB.out | apply below_alloc | apply pw_below_drewN | apply below_drew1) | exact HB.out))) : w.heap.size ≤ gb619)); clear HO_5; clear HB; have HO_5 := n0_; have HB := n1_; have BK619 := n2_; have GW619 := n3_; have GE619 := n4_; clear n0_ n1_ n2_ n3_ n4_; clear hb hbox hg; have hcz11_0 : w10.cell? ⟨gb619, 0, none⟩ = some (.int .i64 0) := (blk_cell BK619.out 0).trans rfl; have hcz11_1 : w10.cell? ⟨gb619, 1, none⟩ = some (.int .i64 0) := (blk_cell BK619.out 1).trans rfl; have hfz11_0 := blk_frozen BK619.out 0; have hfz11_1 := blk_frozen BK619.out 1) | ((with_reducible refine gate_builtin (b := .append) (xs := #[.tmp 18, .tmp 20]) rfl ?_); at_builtin; refine Kd.R_append k40 (w0 := w) w.heap.size rfl (.tmp 18) (.tmp 20) 34 40 (.agg #[(.int .i64 0), (.int .i64 0)]) 16 rfl Try.underlying34 info40 rfl (by decide) (by omega) u5 x5_1 (⟨(rd_T40 l0 x10_1).f0, (rd_T40 l0 x10_1).f1⟩ : S40) [.int .i64 ((rd_T40 l0 x10_1).f0), .int .i64 ((rd_T40 l0 x10_1).f1)] (fun k_ => k_ ≠ gb619) (fun _ => False) rfl (by first | (go_simp; done) | (go_simp; rfl)) ?aP (fun _ hk => hk.elim) ?aF ?aO ?aB ?aS ?aL ?_; (case aP => exact k40_mkM _ _ _ (⟨(rd_T40 l0 x10_1).f0, (rd_T40 l0 x10_1).f1⟩ : S40)); (case aB => exact (by repeat (first | (with_reducible first | exact HB.out | apply below_alloc | apply pw_below_drewN | apply below_drew1 | refine below_set ?_ GE619.out) | exact HB.out))); (case aF => exact (fun k_ hk => Kd.freshB (g := gb619) (o := .cells #[.int .i64 ((rd_T40 l0 x10_1).f0), .int .i64 ((rd_T40 l0 x10_1).f1)] 40 (0, 0)) (by (with_reducible repeat (first | refine blk_drewN ?_ _ | refine blk_drew ?_ | refine blk_alloc ?_ _)); refine blk_put (cs := #[.int .i64 ((rd_T40 l0 x10_1).f0), .int .i64 0]) ?_ 1 _ rfl; (with_reducible repeat (first | refine blk_drewN ?_ _ | refine blk_drew ?_ | refine blk_alloc ?_ _)); refine blk_put (cs := #[.int .i64 0, .int .i64 0]) ?_ 0 _ rfl; (with_reducible repeat (first | refine blk_drewN ?_ _ | refine blk_drew ?_ | refine blk_alloc ?_ _)); exact BK619.out) k_ hk)); (case aO => exact (by (with_reducible repeat (first | apply Kd.R_alloc | apply Kd.R_drewN | apply Kd.R_drew)); exact Kd.R_mono (Kd.R_far (p := ⟨gb619, 1, none⟩) (Kd.R_far (p := ⟨gb619, 0, none⟩) (Kd.R_mono HO_5.out (fun k_ hk => (⟨hk, hk.2⟩ : _ ∧ k_ ≠ gb619))) (fun _ hk => hk.2) (.int .i64 ((rd_T40 l0 x10_1).f0))) (fun _ hk => hk.2) (.int .i64 ((rd_T40 l0 x10_1).f1))) (fun _ hk => hk.1.2))); (case aS => exact (below_size (by repeat (first | (with_reducible first | exact HB.out | apply below_alloc | apply pw_below_drewN | apply below_drew1 | refine below_set ?_ GE619.out) | exact HB.out)))); (case aL => have := LMc9.out; omega); intro v621 w12 ho hb hg hat; rw [← Ny620.out] at ho; have n0_ := Aside0.mk (blk_grown (g := gb619) (o := .cells #[.int .i64 ((rd_T40 l0 x10_1).f0), .int .i64 ((rd_T40 l0 x10_1).f1)] 40 (0, 0)) (by (with_reducible repeat (first | refine blk_drewN ?_ _ | refine blk_drew ?_ | refine blk_alloc ?_ _)); refine blk_put (cs := #[.int .i64 ((rd_T40 l0 x10_1).f0), .int .i64 0]) ?_ 1 _ rfl; (with_reducible repeat (first | refine blk_drewN ?_ _ | refine blk_drew ?_ | refine blk_alloc ?_ _)); refine blk_put (cs := #[.int .i64 0, .int .i64 0]) ?_ 0 _ rfl; (with_reducible repeat (first | refine blk_drewN ?_ _ | refine blk_drew ?_ | refine blk_alloc ?_ _)); exact BK619.out) hg (Kd.R_away HO_5.out (fun _ hk => hk.2))); have n1_ := Aside0.mk (hb); have n2_ := Aside0.mk (ho); clear BK619; clear HB; clear HO_5; have BK619 := n0_; have HB := n1_; have HO622 := n2_; clear n0_ n1_ n2_; clear ho hb hg hat))
                go_roundg k1
                case measure => have := HK1.out; omega
                case rel => exact ⟨(y620), (wrap64 (x10_1 + 1)), (by first | rfl | (simp; done) | (simp [*]; done)), H', ⟨by have := HK1.out; omega⟩, ⟨by (with_reducible repeat (first | apply Kd.R_alloc | apply Kd.R_drewN | apply Kd.R_drew)); exact Kd.R_mono HO622.out (fun _ hk => trivial)⟩, ⟨by repeat (first | (with_reducible first | exact HB.out | apply below_alloc | apply pw_below_drewN | apply below_drew1 | refine below_set ?_ GE619.out) | exact HB.out)⟩⟩
              · rw [if_neg c9] at H
                exact absurd H (by simp)
          · rw [if_neg c5] at H
            exact absurd H (by simp)
        · rw [if_neg c4] at H
          exact absurd H (by simp)
      · rw [if_neg c3] at H
        have c3b0 : decide (x10_1 < (l0.length : Int)) = false := decide_eq_false c3
        clear c3
        obtain rfl := Option.some.inj H
        go_wp2
        go_ret
        exact ⟨_, by first | rfl | (simp [errW_none, errW_some] <;> rfl) | (simp [*, errW_none, errW_some] <;> rfl), by (with_reducible repeat (first | apply Kd.R_alloc | apply Kd.R_drewN | apply Kd.R_drew)); exact HO_5.out, by repeat (first | (with_reducible first | exact HB.out | apply below_alloc | apply pw_below_drewN | apply below_drew1) | exact HB.out)⟩

/-- With some elements put in ahead of element a1. -/
def leaf_Pair_109.f (l0 : List S40) (a1 : Int) (l2 : List S40) : Option (List S40) := if 0 ≤ a1 ∧ a1 ≤ (l0.length : Int) ∧ l0.length + l2.length < 8796093022208 then some (l0.take a1.toNat ++ l2 ++ l0.drop a1.toNat) else none
set_option maxHeartbeats 4000000 in
set_option maxRecDepth 100000 in
theorem leaf_Pair_109.shift (g n cap i : Nat) (cur : Array Value) (w : World) (hg : w.heap[g]? = some (.cells cur 40 (0, 0))) (hsz : cur.size = ((cap) * 2)) (hm : cap ≤ 9223372036854775807) (h1c : ∀ u ∈ cur.toList.take ((n) * 2), u.oneCell' = true)
    (vb vo m vc : Nat) (vs : List Value) (hvl : vs.length = ((m) * 2)) (hvs : ∀ j u, vs[j]? = some u → w.cell? ⟨vb, vo + j, none⟩ = some u) (h1v : ∀ u ∈ vs, u.oneCell' = true) (hm0 : 0 < m) (hvb : vb ≠ g)
    (hi : i < n) (hroom : n + m ≤ cap) :
    Calls Try.prog 109 #[.slice (some ⟨g, 0, none⟩) n cap, .int .i64 i, .slice (some ⟨vb, vo, none⟩) m vc] w fun e w' => e = .returned (.slice (some ⟨g, 0, none⟩) (n + m) cap) ∧ w' = (w.drew.setCells g ((i + m) * 2) ((cur.toList.take ((n) * 2)).drop ((i) * 2))).setCells g ((i) * 2) vs := by
  obtain ⟨i0, hi0, _, hz1, _⟩ := info_parts info40
  have hz1' : ¬ ((m : Int) = 0) := by omega
  have hz2 : ¬ ((i : Int) = (n : Int)) := by omega
  obtain ⟨cs, hcs⟩ : ∃ cs, cs = (cur.toList.take ((n) * 2)).drop ((i) * 2) := ⟨_, rfl⟩
  have hcl : cs.length = ((n - i) * 2) := by rw [hcs]; simp; omega
  have h1s : ∀ u ∈ cs, u.oneCell' = true := fun u hu => h1c u (List.mem_of_mem_drop (hcs ▸ hu))
  rw [← hcs]
  have hv0 : ∃ u, vs[0]? = some u := ⟨_, List.getElem?_eq_getElem (by omega)⟩
  obtain ⟨u0, hu0⟩ := hv0
  have hc0 := hvs 0 u0 hu0
  obtain ⟨cA, tA, fA, hA, hA0⟩ : ∃ cA tA fA, w.heap[vb]? = some (.cells cA tA fA) ∧ cA.size ≠ 0 := by
    unfold World.cell? at hc0
    split at hc0
    · rename_i c t f h
      refine ⟨c, t, f, h, ?_⟩
      simp at hc0
      intro h0
      rw [Array.getElem?_eq_none (by omega)] at hc0
      cases hc0
    · cases hc0
  have hov : ∀ lb cb, (callFunc 125 #[.slice (some ⟨vb, vo, none⟩) m vc, .slice (some ⟨g, ((i + m) * 2), none⟩) lb cb]).run Try.prog w = .ok (.value (.bool false)) w := fun lb cb => by
    rw [run_callFunc_extern Try.func125 (by kernel_rfl) (by kernel_rfl) (by kernel_rfl) (e := Extern.SlicesOverlaps.overlaps #[33, 33] #[4]) (by kernel_rfl),
      run_overlaps_x w 33 4 40 Try.underlying33 2 Try.sizeOf40 ⟨vb, vo, none⟩ ⟨g, ((i + m) * 2), none⟩ m vc lb cb hvb tA 40 cA.size cur.size (by simp [World.shape?, hA]) (by simp [World.shape?, hg]) (by omega) hA0 (fun k => cells_free hg k) rfl]
    rfl
  have hcp1 : ∀ ty dc sc, (Builtin.copy_ #[34, 34] ty #[.slice (some ⟨g, ((i + m) * 2), none⟩) (n + m - (i + m)) dc, .slice (some ⟨g, ((i) * 2), none⟩) (n + m - i) sc]).run Try.prog w.drew = .ok (goInt (n - i : Nat)) (w.drew.setCells g ((i + m) * 2) cs) := fun ty dc sc => by
    have hmin : Nat.min (n + m - i) (n + m - (i + m)) = n - i := by simp only [Nat.min_def]; split <;> omega
    have := run_copy_K (P := Try.prog) w.drew 34 34 ty 40 i0 g ((i + m) * 2) (n + m - (i + m)) dc ⟨g, ((i) * 2), none⟩ (n + m - i) sc cs Try.underlying34 hi0 (by rw [hmin, hcl, hz1] <;> omega)
      (fun j u hj => by
        rw [add_lit']
        show w.cell? _ = _
        rw [cells_cell hg]
        rw [hcs, List.getElem?_drop, List.getElem?_take] at hj
        split at hj
        · exact hj
        · cases hj)
      (fun j hj => cells_some (w := w) hg (by rw [hcl] at hj; omega)) (fun j _ => cells_free (w := w) hg _) h1s
    rw [hmin] at this
    exact this
  obtain ⟨W1, hW1⟩ : ∃ W1, W1 = w.drew.setCells g ((i + m) * 2) cs := ⟨_, rfl⟩
  obtain ⟨cur1, g1, g2, _⟩ := setCells_heap_at g cs ((i + m) * 2) w.drew cur 40 (0, 0) hg (by rw [hcl, hsz]; omega)
  have gv : W1.heap[vb]? = w.heap[vb]? := by rw [hW1]; exact setCells_heap_ne g cs _ w.drew vb hvb
  rw [← hW1] at g1
  have hcp2 : ∀ (W : World), (∀ x, W.cell? x = W1.cell? x) → (∀ x, W.frozen? x = W1.frozen? x) → ∀ ty dc, (Builtin.copy_ #[34, 33] ty #[.slice (some ⟨g, ((i) * 2), none⟩) (n + m - i) dc, .slice (some ⟨vb, vo, none⟩) m vc]).run Try.prog W = .ok (goInt (m : Nat)) (W.setCells g ((i) * 2) vs) := fun W hWc hWf ty dc => by
    have hmin : Nat.min m (n + m - i) = m := by simp only [Nat.min_def]; split <;> omega
    have := run_copy_K (P := Try.prog) W 34 33 ty 40 i0 g ((i) * 2) (n + m - i) dc ⟨vb, vo, none⟩ m vc vs Try.underlying34 hi0 (by rw [hmin, hvl, hz1] <;> omega)
      (fun j u hj => by
        rw [add_lit', hWc]
        have := hvs j u hj
        simp only [World.cell?] at this ⊢
        rw [gv]
        exact this)
      (fun j hj => by rw [hWc]; exact cells_some g1 (by rw [hvl] at hj; omega)) (fun j _ => by rw [hWf]; exact cells_free g1 _) h1v
    rw [hmin] at this
    exact this
  rw [← hW1] at hcp1
  have hw1 : IntKind.i64.wrap ((i : Int) + (m : Int)) = (i : Int) + (m : Int) := by rw [IntKind.wrap_i64]; omega
  have hb1 : (0 : Int) ≤ (i : Int) + (m : Int) := by omega
  have hin : i ≤ n := by omega
  have htn : ((i : Int) + (m : Int)).toNat = i + m := by omega
  have hb2 : ¬ (cap = i + m) := by omega
  have hb3 : (i : Int) ≤ (n : Int) + (m : Int) := by omega
  have hb4 : ¬ (cap = i) := by omega
  have HW := Lib.hid hW1
  rw [← hW1]
  clear hW1 hcs hcl h1s hu0 hc0 hA hA0 g1 g2 gv hg hsz h1c hvl hvs h1v hvb
  go_enter Try.func109, Try.ntmps109
  go_wp2_with (simp only [hov])
  go_region_law (refine stepx_copy rfl _ _ 34 34 rfl _ _ (by simp [Act.eval, Act.put]) (by simp [Act.eval, Act.put]) (hcp1 _ _ _) ?_)
  go_wp2_with (at_builtin; refine wpx_copy _ rfl _ _ 34 33 rfl _ _ rfl rfl (hcp2 _ (fun _ => rfl) (fun _ => rfl) _ _) ?_)
  go_ret
  exact ⟨rfl, rfl⟩
set_option maxHeartbeats 4000000 in
set_option maxRecDepth 100000 in
theorem leaf_Pair_109.grow (g n cap i : Nat) (cur : Array Value) (w : World) (hg : w.heap[g]? = some (.cells cur 40 (0, 0))) (hsz : cur.size = ((cap) * 2)) (hn : n ≤ cap) (h1c : ∀ u ∈ cur.toList.take ((n) * 2), u.oneCell' = true)
    (vb vo m vc : Nat) (vs : List Value) (hvl : vs.length = ((m) * 2)) (hvs : ∀ j u, vs[j]? = some u → w.cell? ⟨vb, vo + j, none⟩ = some u) (h1v : ∀ u ∈ vs, u.oneCell' = true) (hm0 : 0 < m)
    (hi : i < n) (hroom : cap < n + m) (hbig : (n + m) * 16 ≤ 140737488355328) :
    Calls Try.prog 109 #[.slice (some ⟨g, 0, none⟩) n cap, .int .i64 i, .slice (some ⟨vb, vo, none⟩) m vc] w fun e w' => ∃ (G : Nat) (ROW : Array Value), n + m ≤ G ∧ G ≤ maxLen ∧ ROW.size = ((G) * 2) ∧ ROW.toList.take ((i) * 2) = (cur.toList.take ((n) * 2)).take ((i) * 2) ∧ e = .returned (.slice (some ⟨w.heap.size, 0, none⟩) (n + m) G) ∧ w' = ((w.drew.alloc (.cells ROW 40)).setCells w.heap.size ((i) * 2) vs).drew.setCells w.heap.size ((i + m) * 2) ((cur.toList.take ((n) * 2)).drop ((i) * 2)) := by
  obtain ⟨i0, hi0, hz0, hz1, hzb⟩ := info_parts info40
  have hz1' : ¬ ((m : Int) = 0) := by omega
  have hz2 : ¬ ((i : Int) = (n : Int)) := by omega
  have hz3 : (cap : Int) < (n : Int) + (m : Int) := by omega
  have hgw : g < w.heap.size := (Array.getElem?_eq_some_iff.1 hg).1
  have hvw : vb < w.heap.size := World.block_lt_of_cell? w _ (hvs 0 _ (List.getElem?_eq_getElem (by omega)))
  obtain ⟨cs, hcs⟩ : ∃ cs, cs = cur.toList.take ((n) * 2) := ⟨_, rfl⟩
  have hcl : cs.length = ((n) * 2) := by rw [hcs]; simp; omega
  have hcc : ∀ j u, cs[j]? = some u → w.cell? ⟨g, j, none⟩ = some u := fun j u hj => by
    rw [cells_cell hg]
    rw [hcs, List.getElem?_take] at hj
    split at hj
    · exact hj
    · cases hj
  rw [← hcs] at h1c ⊢
  have hkk : (n : Int) + (m : Int) - (i : Int) = ((n + m - i : Nat) : Int) := by omega
  have hik : i + (n + m - i) = n + m := by omega
  have hold : (Builtin.firstCells i0.size i (.slice (some ⟨g, 0, none⟩) i cap)).run Try.prog w.drew = .ok (cs.take ((i) * 2)).toArray w.drew := by
    rw [hz1]
    exact run_firstCells_some w.drew 2 i ⟨g, 0, none⟩ i cap (cs.take ((i) * 2)) (by rw [List.length_take]; omega) (fun j v hj => by
      rw [add_lit', Nat.zero_add]
      rw [List.getElem?_take] at hj
      split at hj
      · exact hcc j v hj
      · cases hj)
  have hG63 : grownCap w (n + m) cap 40 ≤ maxLen := grownCap_le_maxLen w (n + m) cap 40 (by unfold maxLen; omega)
  have hrz : ∀ ty, (Builtin.append_ #[34, 3] ty #[.slice (some ⟨g, 0, none⟩) i cap, .int .i64 ((n : Int) + (m : Int) - (i : Int))]).run Try.prog w =
      .ok (.slice (some ⟨w.heap.size, 0, none⟩) (n + m) (grownCap w (n + m) cap 40)) (w.drew.alloc (.cells ((cs.take ((i) * 2)).toArray ++ Builtin.zeroCells (Value.agg #[.int .i64 0, .int .i64 0]).cells (n + m - i) ++ Builtin.zeroCells (Value.agg #[.int .i64 0, .int .i64 0]).cells (grownCap w (n + m) cap 40 - (n + m))) 40)) := fun ty => by
    have h := Lib.run_append_grow_zeros w 34 3 ty 40 i0 _ .i64 .i64 Try.underlying34 Try.underlying3 hi0 hz0 (some ⟨g, 0, none⟩) i cap (cs.take ((i) * 2)) hold (n + m - i) (by omega) (by omega) (by omega) (by omega) (by rw [hzb]; omega) (by rw [hzb, hik]; exact growslice_fits hroom hbig)
    rw [hik] at h
    rw [hkk]
    exact h
  have hGn : n + m ≤ grownCap w (n + m) cap 40 := grownCap_ge w _ _ _
  generalize grownCap w (n + m) cap 40 = G at hrz hG63 hGn
  have hG63' : G ≤ 9223372036854775807 := by unfold maxLen at hG63; omega
  obtain ⟨ROW, hROW⟩ : ∃ ROW : Array Value, ROW = (cs.take ((i) * 2)).toArray ++ Builtin.zeroCells (Value.agg #[.int .i64 0, .int .i64 0]).cells (n + m - i) ++ Builtin.zeroCells (Value.agg #[.int .i64 0, .int .i64 0]).cells (G - (n + m)) := ⟨_, rfl⟩
  rw [← hROW] at hrz
  have hRs : ROW.size = ((G) * 2) := by
    rw [hROW]
    simp [Builtin.zeroCells, Value.cells, hcl]
    omega
  have hRt : ROW.toList.take ((i) * 2) = cs.take ((i) * 2) := by
    rw [hROW]
    simp only [Array.toList_append, List.append_assoc]
    exact List.take_left' (by rw [List.length_take, hcl]; omega)
  obtain ⟨W1, hW1⟩ : ∃ W1, W1 = w.drew.alloc (.cells ROW 40) := ⟨_, rfl⟩
  have hN : ∀ j, j < ((n + m) * 2) → (W1.cell? ⟨w.heap.size, j, none⟩).isSome = true := fun j hj => by
    rw [hW1, World.cell?_alloc_at (w := w.drew) ROW _ w.heap.size j rfl, Array.getElem?_eq_getElem (by rw [hRs]; omega)]; rfl
  have hNf : ∀ j, W1.frozen? ⟨w.heap.size, j, none⟩ = false := fun j => by rw [hW1]; exact World.frozen?_alloc_at (w := w.drew) ROW _ w.heap.size j rfl
  have hOb : ∀ j v, w.cell? ⟨g, j, none⟩ = some v → W1.cell? ⟨g, j, none⟩ = some v := fun j v h => by rw [hW1, World.cell?_alloc_past (w := w.drew) _ g j hgw]; exact h
  have hOv : ∀ j v, w.cell? ⟨vb, j, none⟩ = some v → W1.cell? ⟨vb, j, none⟩ = some v := fun j v h => by rw [hW1, World.cell?_alloc_past (w := w.drew) _ vb j hvw]; exact h
  have hcpA : ∀ (W : World), (∀ x, W.cell? x = W1.cell? x) → (∀ x, W.frozen? x = W1.frozen? x) → ∀ ty dc, (Builtin.copy_ #[34, 33] ty #[.slice (some ⟨w.heap.size, ((i) * 2), none⟩) (n + m - i) dc, .slice (some ⟨vb, vo, none⟩) m vc]).run Try.prog W = .ok (goInt (m : Nat)) (W.setCells w.heap.size ((i) * 2) vs) := fun W hWc hWf ty dc => by
    have hmin : Nat.min m (n + m - i) = m := by simp only [Nat.min_def]; split <;> omega
    have := run_copy_K (P := Try.prog) W 34 33 ty 40 i0 w.heap.size ((i) * 2) (n + m - i) dc ⟨vb, vo, none⟩ m vc vs Try.underlying34 hi0 (by rw [hmin, hvl, hz1] <;> omega)
      (fun j v hj => by rw [add_lit', hWc]; exact hOv _ v (hvs j v hj))
      (fun j hj => by rw [hWc]; exact hN _ (by omega)) (fun j hj => by rw [hWf]; exact hNf _) h1v
    rw [hmin] at this
    exact this
  have hGi : ¬ (G = i) := by omega
  have hGim : ¬ (G = i + m) := by omega
  have hci : ¬ (cap = i) := by omega
  have hgN : g ≠ w.heap.size := by omega
  have hdl : (cs.drop ((i) * 2)).length = ((n - i) * 2) := by rw [List.length_drop, hcl] <;> omega
  have hout : ∀ k, ((W1.setCells w.heap.size ((i) * 2) vs).cell? ⟨g, k, none⟩) = W1.cell? ⟨g, k, none⟩ := fun k => World.cell?_setCells_out _ _ _ _ _ (fun h _ => absurd h hgN)
  obtain ⟨cur1, g1, g2, _⟩ := setCells_heap_at w.heap.size vs ((i) * 2) W1 ROW 40 (0, 0) (by rw [hW1]; exact heap_alloc_new w.drew _) (by rw [hvl, hRs] <;> omega)
  have hcpB : ∀ (W : World), (∀ x, W.cell? x = (W1.setCells w.heap.size ((i) * 2) vs).cell? x) → (∀ x, W.frozen? x = (W1.setCells w.heap.size ((i) * 2) vs).frozen? x) → ∀ ty dc sc, (Builtin.copy_ #[34, 34] ty #[.slice (some ⟨w.heap.size, ((i + m) * 2), none⟩) (n + m - (i + m)) dc, .slice (some ⟨g, ((i) * 2), none⟩) (n - i) sc]).run Try.prog W = .ok (goInt (n - i : Nat)) (W.setCells w.heap.size ((i + m) * 2) (cs.drop ((i) * 2))) := fun W hWc hWf ty dc sc => by
    have hmin : Nat.min (n - i) (n + m - (i + m)) = n - i := by simp only [Nat.min_def]; split <;> omega
    have := run_copy_K (P := Try.prog) W 34 34 ty 40 i0 w.heap.size ((i + m) * 2) (n + m - (i + m)) dc ⟨g, ((i) * 2), none⟩ (n - i) sc (cs.drop ((i) * 2)) Try.underlying34 hi0 (by rw [hmin, hdl, hz1] <;> omega)
      (fun j v hj => by
        rw [add_lit', hWc, hout]
        exact hOb _ v (hcc _ v (by rwa [List.getElem?_drop] at hj)))
      (fun j hj => by rw [hWc]; exact cells_some g1 (by rw [hdl] at hj; rw [g2, hRs] <;> omega))
      (fun j hj => by rw [hWf]; exact cells_free g1 _) (fun v hv => h1c v (List.mem_of_mem_drop hv))
    rw [hmin] at this
    exact this
  subst hW1
  have hE1 : ∀ x, ((w.alloc (.cells ROW 40)).drew).cell? x = (w.drew.alloc (.cells ROW 40)).cell? x := fun x => rfl
  have hE2 : ∀ x, ((w.alloc (.cells ROW 40)).drew).frozen? x = (w.drew.alloc (.cells ROW 40)).frozen? x := fun x => rfl
  have hF1 : ∀ x, (((w.alloc (.cells ROW 40)).drew.setCells w.heap.size ((i) * 2) vs).drew).cell? x = ((w.drew.alloc (.cells ROW 40)).setCells w.heap.size ((i) * 2) vs).cell? x := fun x => rfl
  have hF2 : ∀ x, (((w.alloc (.cells ROW 40)).drew.setCells w.heap.size ((i) * 2) vs).drew).frozen? x = ((w.drew.alloc (.cells ROW 40)).setCells w.heap.size ((i) * 2) vs).frozen? x := fun x => rfl
  have hw1 : IntKind.i64.wrap ((i : Int) + (m : Int)) = (i : Int) + (m : Int) := by rw [IntKind.wrap_i64]; omega
  have hb1 : (0 : Int) ≤ (i : Int) + (m : Int) := by omega
  have hin : i ≤ n := by omega
  have htn : ((i : Int) + (m : Int)).toNat = i + m := by omega
  have hb3 : (i : Int) ≤ (n : Int) := by omega
  obtain ⟨Fin, hFin⟩ : ∃ Fin : Ending → World → Prop, Fin = fun e w' => ∃ (G : Nat) (ROW : Array Value), n + m ≤ G ∧ G ≤ maxLen ∧ ROW.size = ((G) * 2) ∧ ROW.toList.take ((i) * 2) = cs.take ((i) * 2) ∧ e = .returned (.slice (some ⟨w.heap.size, 0, none⟩) (n + m) G) ∧ w' = ((w.drew.alloc (.cells ROW 40)).setCells w.heap.size ((i) * 2) vs).drew.setCells w.heap.size ((i + m) * 2) (cs.drop ((i) * 2)) := ⟨_, rfl⟩
  have hdone : Hid (Fin (.returned (.slice (some ⟨w.heap.size, 0, none⟩) (n + m) G)) (((w.drew.alloc (.cells ROW 40)).setCells w.heap.size ((i) * 2) vs).drew.setCells w.heap.size ((i + m) * 2) (cs.drop ((i) * 2)))) := Lib.hid (by rw [hFin]; exact ⟨G, ROW, hGn, hG63, hRs, hRt, rfl, rfl⟩)
  rw [← hFin]
  clear hkk hik hold hROW hRs hRt hFin hN hNf hOb hOv hout g1 g2 hcl hcc hcs hdl hvs hvl hsz hg h1c h1v hG63
  go_enter Try.func109, Try.ntmps109
  go_wp2_with (first
    | (at_builtin; refine Lib.wpList_append_run _ rfl _ _ _ _ rfl _ _ rfl rfl _ _ (hrz _) ?_)
    | (at_builtin; refine wpx_copy _ rfl _ _ 34 33 rfl _ _ rfl rfl (hcpA _ hE1 hE2 _ _) ?_)
    | (at_builtin; refine wpx_copy _ rfl _ _ 34 34 rfl _ _ rfl rfl (hcpB _ (fun _ => rfl) (fun _ => rfl) _ _ _) ?_))
  go_region_law (refine stepx_copy rfl _ _ 34 34 rfl (.slice (some ⟨w.heap.size, ((i + m) * 2), none⟩) (n + m - (i + m)) (G - (i + m))) (.slice (some ⟨g, ((i) * 2), none⟩) (n - i) (cap - i)) (by simp [Act.eval, Act.put]) (by simp [Act.eval, Act.put]) (hcpB _ hF1 hF2 3 (G - (i + m)) (cap - i)) ?_)
  go_wp2
  exact hdone.out
set_option maxHeartbeats 2000000 in
set_option maxRecDepth 100000 in
theorem leaf_Pair_109.nothing_ (v : Value) (n i : Nat) (A2 : Option Addr) (c2 : Nat) (w : World) (hv : (v = .slice none 0 0 ∧ n = 0) ∨ ∃ g cap, v = .slice (some ⟨g, 0, none⟩) n cap ∧ n ≤ cap ∧ cap ≤ 9223372036854775807) (hi : i ≤ n) :
    Calls Try.prog 109 #[v, .int .i64 i, .slice A2 0 c2] w fun e w' => e = .returned v ∧ w = w' := by
  rcases hv with ⟨rfl, rfl⟩ | ⟨g, cap, rfl, hn, hm⟩
  · obtain rfl : i = 0 := by omega
    go_enter Try.func109, Try.ntmps109
    go_wp2
    go_ret
    exact ⟨rfl, rfl⟩
  · have hic : i ≤ cap := by omega
    go_enter Try.func109, Try.ntmps109
    go_wp2
    all_goals (go_ret; exact ⟨rfl, rfl⟩)
set_option maxHeartbeats 2000000 in
set_option maxRecDepth 100000 in
theorem leaf_Pair_109.end_ (v v' : Value) (n m : Nat) (A2 : Option Addr) (c2 : Nat) (w w1 : World) (hv : (v = .slice none 0 0 ∧ n = 0) ∨ ∃ g cap, v = .slice (some ⟨g, 0, none⟩) n cap ∧ n ≤ cap ∧ cap ≤ 9223372036854775807) (hm0 : 0 < m)
    (hr : (Builtin.append_ #[34, 33] 34 #[v, .slice A2 m c2]).run Try.prog w = .ok v' w1) :
    Calls Try.prog 109 #[v, .int .i64 n, .slice A2 m c2] w fun e w' => e = .returned v' ∧ w' = w1 := by
  have hz1' : ¬ ((m : Int) = 0) := by omega
  have HR := Lib.hid hr
  clear hr
  rcases hv with ⟨rfl, rfl⟩ | ⟨g, cap, rfl, hn, hm⟩
  · go_enter Try.func109, Try.ntmps109
    go_wp2_with (at_builtin; refine Lib.wpList_append_run _ rfl _ _ _ _ rfl _ _ rfl rfl _ _ HR.out ?_)
    go_ret
    exact ⟨rfl, rfl⟩
  · go_enter Try.func109, Try.ntmps109
    go_wp2_with (at_builtin; refine Lib.wpList_append_run _ rfl _ _ _ _ rfl _ _ rfl rfl _ _ HR.out ?_)
    all_goals (go_ret; exact ⟨rfl, rfl⟩)
set_option maxHeartbeats 1000000 in
theorem leaf_Pair_109.calls (P0_ : Nat → Prop) (u9000_ : Value) (l0 : List S40) (a1 : Int) (A2 : Option Addr) (c2 : Nat) (l2 : List S40) (r : List S40) (w0 w : World) (hB : Below w0.heap.size w0 w) (ho0 : Kd.R k40 40 w w0.heap.size P0_ u9000_ l0) (hr2 : ∀ W_, Kept w W_ (fun k_ => P0_ k_) → Kd.C k40 W_ A2 l2.length l2) (hc2 : l2.length ≤ c2) (h : leaf_Pair_109.f l0 a1 l2 = some r) :
    Calls Try.prog 109 #[u9000_, .int .i64 a1, .slice A2 l2.length c2] w fun e w' => ∃ v0_ : Value, e = .returned v0_ ∧ Kd.R k40 40 w' w0.heap.size (fun k_ => (P0_ k_ ∨ w.heap.size ≤ k_)) v0_ r ∧ Below w0.heap.size w0 w' ∧ Kept w w' (fun k_ => P0_ k_) := by
  unfold leaf_Pair_109.f at h
  split at h
  · rename_i hc
    obtain ⟨h0, h1, h2⟩ := hc
    obtain rfl := Option.some.inj h
    clear h
    obtain ⟨i, rfl⟩ := Int.eq_ofNat_of_zero_le h0
    rw [Int.toNat_natCast]
    have hil : i ≤ l0.length := by omega
    clear h0 h1
    obtain ⟨hok, hown⟩ := (R_iff flat40).1 ho0
    have hown' : w.ownsRow w0.heap.size 40 2 u9000_ l0.length (l0.flatMap enc40) := hown
    have hform : (u9000_ = .slice none 0 0 ∧ l0.length = 0) ∨ ∃ g cap, u9000_ = .slice (some ⟨g, 0, none⟩) l0.length cap ∧ l0.length ≤ cap ∧ cap ≤ 9223372036854775807 := by
      rcases hown'.2 with ⟨h1, h2⟩ | ⟨g, cap, cur, h1, _, _, h2, h3, _⟩
      · exact .inl ⟨h1, h2⟩
      · exact .inr ⟨g, cap, h1, h2, by simpa [maxLen] using h3⟩
    rcases List.eq_nil_or_concat l2 with he | ⟨_, _, he⟩
    · subst he
      refine (leaf_Pair_109.nothing_ u9000_ l0.length i A2 c2 w hform hil).mono ?_
      rintro e w' ⟨rfl, rfl⟩
      refine ⟨_, rfl, ?_, hB, Kept.refl _ _⟩
      rw [List.append_nil, List.take_append_drop]
      exact Kd.R_mono ho0 (fun _ hk => .inl hk)
    · have hne : l2 ≠ [] := by rw [he]; simp
      clear he
      have hm0 : 0 < l2.length := List.length_pos_iff.2 hne
      have hlv : (l2.flatMap enc40).length = l2.length * 2 := flatMap_length flat40 l2
      obtain ⟨vb, vo, rfl, hvs⟩ : ∃ b o, A2 = some ⟨b, o, none⟩ ∧ ∀ j u, (l2.flatMap enc40)[j]? = some u → w.cell? ⟨b, o + j, none⟩ = some u := by
        rcases C_at flat40 (hr2 w (Kept.refl _ _)) with h0 | h0
        · rw [h0] at hlv; simp at hlv; omega
        · exact h0
      by_cases hin : i = l0.length
      · subst hin
        obtain ⟨i0, hi0, hz0, hz1, hzb⟩ := info_parts info40
        obtain ⟨v', w1, hr, ho1, hg1, hb1⟩ := run_append_own_x w 34 33 34 40 i0 _ 2 16 Try.underlying34 Try.underlying33 hi0 hz0 hz1 hzb rfl (by decide) (by decide) w0.heap.size u9000_ l0.length (l0.flatMap enc40) hown' ⟨vb, vo, none⟩ l2.length c2 (l2.flatMap enc40) hlv (fun j u hj => by rw [add_lit']; exact hvs j u hj) (Flat.ones flat40 l2) (by omega) hB.size
        refine (leaf_Pair_109.end_ u9000_ v' l0.length l2.length _ c2 w w1 hform hm0 hr).mono ?_
        rintro e w' ⟨rfl, rfl⟩
        refine ⟨_, rfl, ?_, hB.grown hg1 hB.size (own_base hown'), Kept.of_grown hg1 (Kept.refl _ _) (fun k hk => .inl (hok k hk))⟩
        rw [List.take_length, List.drop_length, List.append_nil]
        refine (R_iff flat40).2 ⟨fun k hk => ?_, by rw [List.length_append, List.flatMap_append]; exact ho1⟩
        rcases hb1 with hb1 | ⟨b, hb1, hb2⟩
        · exact .inl (hok k (hb1 ▸ hk))
        · rw [hb1] at hk
          obtain rfl := Option.some.inj hk
          exact .inr hb2
      · have hi : i < l0.length := by omega
        rcases hown'.2 with ⟨_, h0⟩ | ⟨g, cap, cur, rfl, hb, hg, hn, hm, hs, ht⟩
        · omega
        · have hP : P0_ g := hok g rfl
          have hm' : cap ≤ 9223372036854775807 := by simpa [maxLen] using hm
          have hvb : vb ≠ g := apart_of_kept flat40 hP hne hr2
          have hl0 : (l0.flatMap enc40).length = l0.length * 2 := flatMap_length flat40 l0
          have hones : ∀ u ∈ cur.toList.take (l0.length * 2), u.oneCell' = true := by rw [ht]; exact Flat.ones flat40 l0
          have hcl : cur.toList.length = cap * 2 := by rw [Array.length_toList]; exact hs
          have hlr : (l0.take i ++ l2 ++ l0.drop i).length = l0.length + l2.length := by simp; omega
          have e1 : (l0.flatMap enc40).drop (i * 2) = (l0.drop i).flatMap enc40 := flatMap_drop flat40 l0 i
          have e2 : (l0.flatMap enc40).take (i * 2) = (l0.take i).flatMap enc40 := flatMap_take flat40 l0 i
          have l1 : ((l0.take i).flatMap enc40).length = i * 2 := by
            have : ((l0.take i).flatMap enc40).length = (l0.take i).length * 2 := flatMap_length flat40 _
            rw [this, List.length_take, Nat.min_eq_left hil]
          have l3 : ((l0.drop i).flatMap enc40).length = (l0.length - i) * 2 := by
            have : ((l0.drop i).flatMap enc40).length = (l0.drop i).length * 2 := flatMap_length flat40 _
            rw [this, List.length_drop]
          by_cases hroom : l0.length + l2.length ≤ cap
          · have hlow : Calls Try.prog 109 #[.slice (some ⟨g, 0, none⟩) l0.length cap, .int .i64 i, .slice (some ⟨vb, vo, none⟩) l2.length c2] w fun e w' => e = .returned (.slice (some ⟨g, 0, none⟩) (l0.length + l2.length) cap) ∧ w' = (w.drew.setCells g ((i + l2.length) * 2) ((cur.toList.take (l0.length * 2)).drop (i * 2))).setCells g (i * 2) (l2.flatMap enc40) := by
              have hs' := hs
              have hlv' := hlv
              (try simp only [Nat.mul_one] at hones hs' hlv' ⊢)
              exact leaf_Pair_109.shift g l0.length cap i cur w hg hs' hm' hones vb vo l2.length c2 (l2.flatMap enc40) hlv' hvs (Flat.ones flat40 l2) hm0 hvb hi hroom
            refine hlow.mono ?_
            rintro e w' ⟨rfl, rfl⟩
            rw [ht, e1]
            obtain ⟨cur1, g1, g2, g3⟩ := setCells_heap_at g ((l0.drop i).flatMap enc40) ((i + l2.length) * 2) w.drew cur 40 (0, 0) hg (by rw [l3, hs]; omega)
            obtain ⟨cur2, k1, k2, k3⟩ := setCells_heap_at g (l2.flatMap enc40) (i * 2) _ cur1 40 (0, 0) g1 (by rw [hlv, g2, hs]; omega)
            have hcells : cur2.toList.take ((l0.length + l2.length) * 2) = (l0.take i ++ l2 ++ l0.drop i).flatMap enc40 := by
              have c1 : cur1.toList.take (i * 2) = (l0.take i).flatMap enc40 := by
                rw [g3, List.append_assoc, List.take_append_of_le_length (by rw [List.length_take, hcl]; omega), List.take_take, Nat.min_eq_left (by omega), ← e2, ← ht, List.take_take, Nat.min_eq_left (by omega)]
              have c2 : (cur1.toList.drop (i * 2 + (l2.flatMap enc40).length)).take ((l0.length - i) * 2) = (l0.drop i).flatMap enc40 := by
                rw [hlv, show i * 2 + l2.length * 2 = (i + l2.length) * 2 by omega, g3, List.append_assoc, List.drop_left' (by rw [List.length_take, hcl]; omega)]
                exact List.take_left' l3
              rw [k3, c1, List.flatMap_append, List.flatMap_append, List.take_append, List.take_of_length_le (by rw [List.length_append, l1, hlv]; omega), List.length_append, l1, hlv]
              congr 1
              rw [show (l0.length + l2.length) * 2 - (i * 2 + l2.length * 2) = (l0.length - i) * 2 by omega, ← hlv]
              exact c2
            refine ⟨_, rfl, (R_iff flat40).2 ⟨fun k hk => ?_, by rw [flatMap_length flat40], .inr ⟨g, cap, cur2, by rw [hlr], hb, k1, by rw [hlr]; omega, hm, by rw [k2, g2]; exact hs, by rw [hlr]; exact hcells⟩⟩, ?_, ?_⟩
            · have : g = k := by simpa [Value.ownBlock] using hk
              subst this
              exact .inl hP
            · exact bel_setCells (bel_setCells (below_drew1 hB) hb _ _) hb _ _
            · exact kep_setCells (kep_setCells (Kept.drew (Kept.refl w _)) hP _ _) hP _ _
          · have hlow : Calls Try.prog 109 #[.slice (some ⟨g, 0, none⟩) l0.length cap, .int .i64 i, .slice (some ⟨vb, vo, none⟩) l2.length c2] w fun e w' => ∃ (G : Nat) (ROW : Array Value), l0.length + l2.length ≤ G ∧ G ≤ maxLen ∧ ROW.size = G * 2 ∧ ROW.toList.take (i * 2) = (cur.toList.take (l0.length * 2)).take (i * 2) ∧ e = .returned (.slice (some ⟨w.heap.size, 0, none⟩) (l0.length + l2.length) G) ∧ w' = ((w.drew.alloc (.cells ROW 40)).setCells w.heap.size (i * 2) (l2.flatMap enc40)).drew.setCells w.heap.size ((i + l2.length) * 2) ((cur.toList.take (l0.length * 2)).drop (i * 2)) := by
              have hs' := hs
              have hlv' := hlv
              (try simp only [Nat.mul_one] at hones hs' hlv' ⊢)
              exact leaf_Pair_109.grow g l0.length cap i cur w hg hs' hn hones vb vo l2.length c2 (l2.flatMap enc40) hlv' hvs (Flat.ones flat40 l2) hm0 hi (by omega) (by omega)
            refine hlow.mono ?_
            rintro e w' ⟨G, ROW, q1, q2, q3, q4, rfl, rfl⟩
            rw [ht, e2] at q4
            rw [ht, e1]
            obtain ⟨cur1, g1, g2, g3⟩ := setCells_heap_at w.heap.size (l2.flatMap enc40) (i * 2) (w.drew.alloc (.cells ROW 40)) ROW 40 (0, 0) (heap_alloc_new w.drew _) (by rw [hlv, q3]; omega)
            obtain ⟨cur2, k1, k2, k3⟩ := setCells_heap_at w.heap.size ((l0.drop i).flatMap enc40) ((i + l2.length) * 2) (World.setCells (w.drew.alloc (.cells ROW 40)) w.heap.size (i * 2) (l2.flatMap enc40)).drew cur1 40 (0, 0) g1 (by rw [l3, g2, q3]; omega)
            have hcells : cur2.toList.take ((l0.length + l2.length) * 2) = (l0.take i ++ l2 ++ l0.drop i).flatMap enc40 := by
              have c1 : cur1.toList.take ((i + l2.length) * 2) = (l0.take i).flatMap enc40 ++ l2.flatMap enc40 := by
                rw [g3, q4]
                exact List.take_left' (by rw [List.length_append, l1, hlv]; omega)
              rw [k3, c1, List.flatMap_append, List.flatMap_append]
              exact List.take_left' (by rw [List.length_append, List.length_append, l1, hlv, l3]; omega)
            have hbN : Below w0.heap.size w0 (w.drew.alloc (.cells ROW 40)) := below_alloc (below_drew1 hB) _
            have hkN : Kept w (w.drew.alloc (.cells ROW 40)) (fun k_ => P0_ k_ ∨ w.heap.size ≤ k_) := Kept.alloc (Kept.drew (Kept.refl w _)) _
            refine ⟨_, rfl, (R_iff flat40).2 ⟨fun k hk => ?_, by rw [flatMap_length flat40], .inr ⟨w.heap.size, G, cur2, by rw [hlr], hB.size, k1, by rw [hlr]; omega, q2, by rw [k2, g2]; exact q3, by rw [hlr]; exact hcells⟩⟩, ?_, ?_⟩
            · have : w.heap.size = k := by simpa [Value.ownBlock] using hk
              subst this
              exact .inr (Nat.le_refl _)
            · exact bel_setCells (below_drew1 (bel_setCells hbN hB.size _ _)) hB.size _ _
            · have hk2 := kep_setCells (Kept.drew (kep_setCells hkN (b := w.heap.size) (.inr (Nat.le_refl _)) (i * 2) (l2.flatMap enc40))) (b := w.heap.size) (.inr (Nat.le_refl _)) ((i + l2.length) * 2) ((l0.drop i).flatMap enc40)
              exact ⟨hk2.1, fun k hk hn => hk2.2 k hk (fun h => h.elim hn (fun h => by omega))⟩
  · cases h

end Go.Proofs.Ytkoiffkonjpoiaa.Q
