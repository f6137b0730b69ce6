/- Go functions of the program as plain Lean functions, and for each the contract that the call comes to its answers; written by a turned print of this session. -/
import Derived.Test.YtkoiffkonjpoiaaQ0
namespace Go.Proofs.Ytkoiffkonjpoiaa.Q
open Go.RowKit Go.Proofs.YtkoiffkonjpoiaaW.PrintWords Go.Proofs.YtkoiffkonjpoiaaW.PrintLast Go.Proofs.YtkoiffkonjpoiaaW.PrintMore Go.Proofs.YtkoiffkonjpoiaaX
attribute [local go_sem] max2_int min2_int max_two min_two max_three min_three max_four min_four   -- for this text's walks alone
set_option linter.unusedVariables false
set_option linter.unusedSimpArgs false

mutual
def boscagelaw02_Put.l0 : Nat → Int → Int → List (S40) → Bool → List (S40) → Int → Int → Option ((List (S40)))
  | 0, _, _, _, _, _, _, _ => none
  | k + 1, x1, x2, x7, x8, x11, x12, x13 => if x13 < x12 then (if 0 ≤ x13 then (if x13 < (x11.length : Int) then (if x8 = true then (boscagelaw02_Put.j1 k x1 x2 x7 x8 x11 x12 x13 false ((rd_T40 x11 x13).f0) ((rd_T40 x11 x13).f1)) else (boscagelaw02_Put.j1 k x1 x2 x7 x8 x11 x12 x13 (decide (((rd_T40 x11 x13).f0) ≥ x1)) ((rd_T40 x11 x13).f0) ((rd_T40 x11 x13).f1))) else (none)) else (none)) else (if x8 = true then (some x7) else (if x7.length < 8796093022208 then (some (x7 ++ [(⟨x1, x2⟩ : S40)])) else (none)))
def boscagelaw02_Put.j1 : Nat → Int → Int → List (S40) → Bool → List (S40) → Int → Int → Bool → Int → Int → Option ((List (S40)))
  | 0, _, _, _, _, _, _, _, _, _, _ => none
  | k + 1, x1, x2, x7, x8, x11, x12, x13, x24, x127000, x127001 => if x24 = true then (if x7.length < 8796093022208 then ((some (x7 ++ [(⟨x1, x2⟩ : S40)] : List (S40))).bind fun y127 => (if x127000 = x1 then (boscagelaw02_Put.l0 k x1 x2 y127 true x11 x12 (wrap64 (x13 + 1))) else (if y127.length < 8796093022208 then (boscagelaw02_Put.l0 k x1 x2 (y127 ++ [(⟨x127000, x127001⟩ : S40)]) true x11 x12 (wrap64 (x13 + 1))) else (none)))) else (none)) else (if x127000 = x1 then (boscagelaw02_Put.l0 k x1 x2 x7 x8 x11 x12 (wrap64 (x13 + 1))) else (if x7.length < 8796093022208 then (boscagelaw02_Put.l0 k x1 x2 (x7 ++ [(⟨x127000, x127001⟩ : S40)]) x8 x11 x12 (wrap64 (x13 + 1))) else (none)))
end
def boscagelaw02_Put.f (k : Nat) (l0 : List (S40)) (a1 : Int) (a2 : Int) : Option ((List (S40))) := boscagelaw02_Put.l0 k a1 a2 ([] : List (S40)) false l0 (l0.length : Int) 0
set_option maxHeartbeats 8000000 in
set_option maxRecDepth 100000 in
theorem boscagelaw02_Put.calls (k : Nat) (A0 : Option Addr) (c0 : Nat) (l0 : List (S40)) (a1 : Int) (a2 : Int) (r : List (S40)) (w : World) (hr0 : Kd.C k40 w A0 l0.length l0) (hc0 : l0.length ≤ c0) (h : boscagelaw02_Put.f k l0 a1 a2 = some r) :
    Calls Try.prog 69 #[.slice A0 l0.length c0, .int .i64 a1, .int .i64 a2] w fun e w' => ∃ v0_ : Value, e = .returned (v0_) ∧ Kd.R k40 40 w' w.heap.size (fun _ => True) v0_ r ∧ Below w.heap.size w w' := by
  have hu40 := Try.underlying40
  have HR0 := Aside0.mk hr0
  have HC0 := Aside0.mk hc0
  clear hr0 hc0
  have HB := Aside0.mk (Below.refl w.heap.size w)
  have H : (boscagelaw02_Put.l0 k a1 a2 ([] : List (S40)) false l0 (l0.length : Int) 0) = some r := h
  clear h
  have H' := Aside0.mk H
  clear H
  go_enter Try.func69, Try.ntmps69
  go_wp2
  go_loopg [7, 8, 13] k (fun kq v7 v8 v13 w' => ∃ (x7_1 : List (S40)) (x8_1 : Bool) (x13_1 : Int), v8 = .bool x8_1 ∧ v13 = .int .i64 x13_1 ∧ Aside0 (boscagelaw02_Put.l0 kq a1 a2 x7_1 x8_1 l0 (l0.length : Int) x13_1 = some r) ∧ Aside0 (kq ≤ k) ∧ Aside0 (Kd.R k40 40 w' w.heap.size (fun _ => True) v7 x7_1) ∧ Aside0 (Below w.heap.size w w'))
  case atStart => exact ⟨(([] : List (S40))), (false), (0), (by first | rfl | (simp; done) | (simp [*]; done)), (by first | rfl | (simp; done) | (simp [*]; done)), H', ⟨Nat.le_refl _⟩, ⟨by first | exact Kd.R_nil _ _ _ _ _ | exact Kd.N_nil _ _ _ _ _ | exact Kd.V_nil _ _ _ _ _ | exact Kd.Q_nil _ _ _ _ _ | exact Kd.S_nil _ _ _ _ _⟩, ⟨by repeat (first | (with_reducible first | exact HB.out | apply below_alloc | apply pw_below_drewN | apply below_drew1) | exact HB.out)⟩⟩
  case round =>
    clear H'
    try clear p2
    obtain ⟨x7_1, x8_1, x13_1, rfl, rfl, HA, HK1, HO_7, HB⟩ := hrel
    cases gk with
    | zero => exact absurd HA.out (by simp [boscagelaw02_Put.l0])
    | succ k1 =>
      have H := HA.out
      clear HA
      simp only [boscagelaw02_Put.l0] at H
      by_cases c4 : x13_1 < (l0.length : Int)
      · rw [if_pos c4] at H
        have c4b0 : decide (x13_1 < (l0.length : Int)) = true := decide_eq_true c4
        clear c4
        by_cases c5 : 0 ≤ x13_1
        · rw [if_pos c5] at H
          have c5b0 : decide (0 ≤ x13_1) = true := decide_eq_true c5
          clear c5
          by_cases c6 : x13_1 < (l0.length : Int)
          · rw [if_pos c6] at H
            have c6b0 : decide (x13_1 < (l0.length : Int)) = true := decide_eq_true c6
            clear c6
            have HC7 := Aside0.mk H
            clear H
            have p125 : 0 ≤ (x13_1 : Int) := of_decide_eq_true (by first | (with_reducible assumption) | assumption)
            have q125 : x13_1 < (l0.length : Int) := of_decide_eq_true (by first | (with_reducible assumption) | assumption)
            obtain ⟨ad125, e125, hx125_0, hx125_1⟩ := at_T40 HR0.out x13_1 p125 q125
            cases e125
            replace hx125_0 := (HB.out.cell (World.block_lt_of_cell? w _ hx125_0)).trans hx125_0
            replace hx125_1 := (HB.out.cell (World.block_lt_of_cell? w _ hx125_1)).trans hx125_1
            replace p125 := eq_true p125
            replace q125 := eq_true q125
            go_upto_region 6 with (first | ((with_reducible refine gate_dst (N := 10) rfl ?_); refine box_event ?hg (N := 10) ?hd (cs := #[.int .i64 0, .int .i64 0]) (t := 40) ?hr ?_; (case hd => rfl); (case hg => rfl); (case hr => first | (go_simp; done) | (go_simp; rfl)); intro gb126 hg w8 hbox hb; have n0_ := Aside0.mk (Kd.R_below (Kd.R_elderB (by (with_reducible repeat (first | apply Kd.R_alloc | apply Kd.R_drewN | apply Kd.R_drew)); exact HO_7.out) gb126 (Nat.le_of_eq hg.symm)) hb); have n1_ := Aside0.mk (below_step (by repeat (first | (with_reducible first | exact HB.out | apply below_alloc | apply pw_below_drewN | apply below_drew1) | exact HB.out)) hb); have n2_ := Aside0.mk (hbox); have n3_ := Aside0.mk ((by rw [hg]; exact (below_size (by repeat (first | (with_reducible first | exact HB.out | apply below_alloc | apply pw_below_drewN | apply below_drew1) | exact HB.out))) : w.heap.size ≤ gb126)); have n4_ := Aside0.mk ((by rw [hg]; exact (below_size (by repeat (first | (with_reducible first | exact HB.out | apply below_alloc | apply pw_below_drewN | apply below_drew1) | exact HB.out))) : w.heap.size ≤ gb126)); clear HO_7; clear HB; have HO_7 := n0_; have HB := n1_; have BK126 := n2_; have GW126 := n3_; have GE126 := n4_; clear n0_ n1_ n2_ n3_ n4_; clear hb hbox hg; have hcz9_0 : w8.cell? ⟨gb126, 0, none⟩ = some (.int .i64 0) := (blk_cell BK126.out 0).trans rfl; have hcz9_1 : w8.cell? ⟨gb126, 1, none⟩ = some (.int .i64 0) := (blk_cell BK126.out 1).trans rfl; have hfz9_0 := blk_frozen BK126.out 0; have hfz9_1 := blk_frozen BK126.out 1))
            (try simp only [Act.put, List.setIfInBounds_toArray, List.set_cons_zero, List.set_cons_succ])
            go_cut [24] (fun v24 wc => ∃ (kq : Nat) (x24_6 : Bool), v24 = .bool x24_6 ∧ Aside0 (boscagelaw02_Put.j1 kq a1 a2 x7_1 x8_1 l0 (l0.length : Int) x13_1 x24_6 ((rd_T40 l0 x13_1).f0) ((rd_T40 l0 x13_1).f1) = some r) ∧ Aside0 (kq ≤ k1) ∧ Aside0 (Kd.R k40 40 wc w.heap.size (fun k_ => k_ ≠ gb126) u7 x7_1) ∧ Aside0 (wc.heap[gb126]? = some (.cells #[.int .i64 ((rd_T40 l0 x13_1).f0), .int .i64 ((rd_T40 l0 x13_1).f1)] 40 (0, 0))) ∧ Aside0 (Below w.heap.size w wc))
            case first =>
              have H := HC7.out
              clear HC7
              by_cases c10 : x8_1 = true
              · subst c10
                have H1 : (boscagelaw02_Put.j1 k1 a1 a2 x7_1 true l0 (l0.length : Int) x13_1 false ((rd_T40 l0 x13_1).f0) ((rd_T40 l0 x13_1).f1)) = some r := by rw [if_pos rfl] at H; exact H
                clear H
                have H := H1
                clear H1
                have H' := Aside0.mk H
                clear H
                go_wp2
                go_meet
                case rel => exact ⟨_, (false), (by first | rfl | (simp; done) | (simp [*]; done)), H', ⟨by have := HK1.out; first | omega | exact Nat.le_refl _⟩, ⟨by (with_reducible repeat (first | apply Kd.R_alloc | apply Kd.R_drewN | apply Kd.R_drew)); exact Kd.R_mono (Kd.R_far (p := ⟨gb126, 1, none⟩) (Kd.R_far (p := ⟨gb126, 0, none⟩) (Kd.R_mono HO_7.out (fun k_ hk => (⟨hk, hk.2⟩ : _ ∧ k_ ≠ gb126))) (fun _ hk => hk.2) (.int .i64 ((rd_T40 l0 x13_1).f0))) (fun _ hk => hk.2) (.int .i64 ((rd_T40 l0 x13_1).f1))) (fun _ hk => hk.1.2)⟩, ⟨by (with_reducible repeat (first | refine blk_drewN ?_ _ | refine blk_drew ?_ | refine blk_alloc ?_ _)); refine blk_put (cs := #[.int .i64 ((rd_T40 l0 x13_1).f0), .int .i64 0]) ?_ 1 _ rfl; (with_reducible repeat (first | refine blk_drewN ?_ _ | refine blk_drew ?_ | refine blk_alloc ?_ _)); refine blk_put (cs := #[.int .i64 0, .int .i64 0]) ?_ 0 _ rfl; (with_reducible repeat (first | refine blk_drewN ?_ _ | refine blk_drew ?_ | refine blk_alloc ?_ _)); exact BK126.out⟩, ⟨by repeat (first | (with_reducible first | exact HB.out | apply below_alloc | apply pw_below_drewN | apply below_drew1 | refine below_set ?_ GE126.out) | exact HB.out)⟩⟩
              · replace c10 := Bool.eq_false_iff.mpr c10
                subst c10
                have H1 : (boscagelaw02_Put.j1 k1 a1 a2 x7_1 false l0 (l0.length : Int) x13_1 (decide (((rd_T40 l0 x13_1).f0) ≥ a1)) ((rd_T40 l0 x13_1).f0) ((rd_T40 l0 x13_1).f1)) = some r := by rw [if_neg (show ¬ (false = true) by decide)] at H; exact H
                clear H
                have H := H1
                clear H1
                have H' := Aside0.mk H
                clear H
                have hcz11_0 : w8.cell? ⟨gb126, 0, none⟩ = some (.int .i64 0) := (blk_cell BK126.out 0).trans rfl
                have hcz11_1 : w8.cell? ⟨gb126, 1, none⟩ = some (.int .i64 0) := (blk_cell BK126.out 1).trans rfl
                have hfz11_0 := blk_frozen BK126.out 0
                have hfz11_1 := blk_frozen BK126.out 1
                go_wp2
                go_meet
                case rel => exact ⟨_, (decide (((rd_T40 l0 x13_1).f0) ≥ a1)), (by first | rfl | (simp; done) | (simp [*]; done)), H', ⟨by have := HK1.out; first | omega | exact Nat.le_refl _⟩, ⟨by (with_reducible repeat (first | apply Kd.R_alloc | apply Kd.R_drewN | apply Kd.R_drew)); exact Kd.R_mono (Kd.R_far (p := ⟨gb126, 1, none⟩) (Kd.R_far (p := ⟨gb126, 0, none⟩) (Kd.R_mono HO_7.out (fun k_ hk => (⟨hk, hk.2⟩ : _ ∧ k_ ≠ gb126))) (fun _ hk => hk.2) (.int .i64 ((rd_T40 l0 x13_1).f0))) (fun _ hk => hk.2) (.int .i64 ((rd_T40 l0 x13_1).f1))) (fun _ hk => hk.1.2)⟩, ⟨by (with_reducible repeat (first | refine blk_drewN ?_ _ | refine blk_drew ?_ | refine blk_alloc ?_ _)); refine blk_put (cs := #[.int .i64 ((rd_T40 l0 x13_1).f0), .int .i64 0]) ?_ 1 _ rfl; (with_reducible repeat (first | refine blk_drewN ?_ _ | refine blk_drew ?_ | refine blk_alloc ?_ _)); refine blk_put (cs := #[.int .i64 0, .int .i64 0]) ?_ 0 _ rfl; (with_reducible repeat (first | refine blk_drewN ?_ _ | refine blk_drew ?_ | refine blk_alloc ?_ _)); exact BK126.out⟩, ⟨by repeat (first | (with_reducible first | exact HB.out | apply below_alloc | apply pw_below_drewN | apply below_drew1 | refine below_set ?_ GE126.out) | exact HB.out)⟩⟩
            case rest =>
              clear HC7
              try clear c1
              try clear p1
              try clear q1
              try clear hx1
              try clear p2
              try clear c4
              try clear c4b0
              try clear c5
              try clear c5b0
              try clear c6
              try clear c6b0
              try clear c10
              try clear hcz11_0
              try clear hcz11_1
              try clear hcz9_0
              try clear hcz9_1
              try clear hfz11_0
              try clear hfz11_1
              try clear hfz9_0
              try clear hfz9_1
              try clear hx125_0
              try clear hx125_1
              try clear p125
              try clear p2
              try clear q125
              obtain ⟨kq, x24_6, rfl, HA, HJ6, HO_7, BK126, HB⟩ := hcut
              cases kq with
              | zero => exact absurd HA.out (by simp [boscagelaw02_Put.j1])
              | succ kj6 =>
                have H := HA.out
                clear HA
                simp only [boscagelaw02_Put.j1] at H
                by_cases c12 : x24_6 = true
                · subst c12
                  have H1 : (if x7_1.length < 8796093022208 then ((some (x7_1 ++ [(⟨a1, a2⟩ : S40)] : List (S40))).bind fun y127 => (if ((rd_T40 l0 x13_1).f0) = a1 then (boscagelaw02_Put.l0 kj6 a1 a2 y127 true l0 (l0.length : Int) (wrap64 (x13_1 + 1))) else (if y127.length < 8796093022208 then (boscagelaw02_Put.l0 kj6 a1 a2 (y127 ++ [(⟨((rd_T40 l0 x13_1).f0), ((rd_T40 l0 x13_1).f1)⟩ : S40)]) true l0 (l0.length : Int) (wrap64 (x13_1 + 1))) else (none)))) else (none)) = some r := by rw [if_pos rfl] at H; exact H
                  clear H
                  have H := H1
                  clear H1
                  by_cases c13 : x7_1.length < 8796093022208
                  · rw [if_pos c13] at H
                    have LMc13 := Aside0.mk c13
                    clear c13
                    obtain ⟨y127, hy127⟩ : ∃ y_ : List (S40), y_ = (x7_1 ++ [(⟨a1, a2⟩ : S40)]) := ⟨_, rfl⟩
                    replace H : (if ((rd_T40 l0 x13_1).f0) = a1 then (boscagelaw02_Put.l0 kj6 a1 a2 y127 true l0 (l0.length : Int) (wrap64 (x13_1 + 1))) else (if y127.length < 8796093022208 then (boscagelaw02_Put.l0 kj6 a1 a2 (y127 ++ [(⟨((rd_T40 l0 x13_1).f0), ((rd_T40 l0 x13_1).f1)⟩ : S40)]) true l0 (l0.length : Int) (wrap64 (x13_1 + 1))) else (none))) = some r := by first | (rw [hy127]; with_reducible exact H) | (have H2_ := (Option.bind_some _ _).symm.trans H; rw [hy127]; with_reducible exact H2_) | (have H2_ := (Option.bind_some _ _).symm.trans H; with_reducible exact H2_) | with_reducible exact H | (rw [hy127]; exact H) | exact H
                    have Ny127 := Aside0.mk hy127
                    clear hy127
                    by_cases c14 : ((rd_T40 l0 x13_1).f0) = a1
                    · rw [if_pos c14] at H
                      have c14b0 : (((rd_T40 l0 x13_1).f0) == a1) = true := beq_iff_eq.mpr c14
                      have c14b1 : (((rd_T40 l0 x13_1).f0) != a1) = false := bne_eq_false_iff_eq.mpr c14
                      clear c14
                      have H' := Aside0.mk H
                      clear H
                      go_wp2_with (first | ((with_reducible refine gate_builtin (b := .append) (xs := #[.tmp 25, .tmp 29]) rfl ?_); at_builtin; refine Kd.R_append k40 (w0 := w) w.heap.size rfl (.tmp 25) (.tmp 29) 34 40 (.agg #[(.int .i64 0), (.int .i64 0)]) 16 rfl Try.underlying34 info40 rfl (by decide) (by omega) u7 x7_1 (⟨a1, a2⟩ : S40) [.int .i64 a1, .int .i64 a2] (fun k_ => k_ ≠ gb126) (fun _ => False) rfl rfl ?aP (fun _ hk => hk.elim) ?aF ?aO ?aB ?aS ?aL ?_; (case aP => exact k40_mkM _ _ _ (⟨a1, a2⟩ : S40)); (case aB => exact (by repeat (first | (with_reducible first | exact HB.out | apply below_alloc | apply pw_below_drewN | apply below_drew1 | refine below_set ?_ GE126.out) | exact HB.out))); (case aF => exact (fun k_ hk => Kd.freshB (g := gb126) (o := .cells #[.int .i64 ((rd_T40 l0 x13_1).f0), .int .i64 ((rd_T40 l0 x13_1).f1)] 40 (0, 0)) (by (with_reducible repeat (first | refine blk_drewN ?_ _ | refine blk_drew ?_ | refine blk_alloc ?_ _)); exact BK126.out) k_ hk)); (case aO => exact (by (with_reducible repeat (first | apply Kd.R_alloc | apply Kd.R_drewN | apply Kd.R_drew)); exact HO_7.out)); (case aS => exact (below_size (by repeat (first | (with_reducible first | exact HB.out | apply below_alloc | apply pw_below_drewN | apply below_drew1 | refine below_set ?_ GE126.out) | exact HB.out)))); (case aL => have := LMc13.out; omega); intro v128 w15 ho hb hg hat; rw [← Ny127.out] at ho; have n0_ := Aside0.mk (blk_grown (g := gb126) (o := .cells #[.int .i64 ((rd_T40 l0 x13_1).f0), .int .i64 ((rd_T40 l0 x13_1).f1)] 40 (0, 0)) (by (with_reducible repeat (first | refine blk_drewN ?_ _ | refine blk_drew ?_ | refine blk_alloc ?_ _)); exact BK126.out) hg (Kd.R_away HO_7.out (fun _ hk => hk))); have n1_ := Aside0.mk (hb); have n2_ := Aside0.mk (ho); clear BK126; clear HB; clear HO_7; have BK126 := n0_; have HB := n1_; have HO129 := n2_; clear n0_ n1_ n2_; clear ho hb hg hat; have hcz16_0 : w15.cell? ⟨gb126, 0, none⟩ = some (.int .i64 ((rd_T40 l0 x13_1).f0)) := (blk_cell BK126.out 0).trans rfl; have hcz16_1 : w15.cell? ⟨gb126, 1, none⟩ = some (.int .i64 ((rd_T40 l0 x13_1).f1)) := (blk_cell BK126.out 1).trans rfl; have hfz16_0 := blk_frozen BK126.out 0; have hfz16_1 := blk_frozen BK126.out 1))
                      go_roundg kj6
                      case measure => have := HK1.out; have := HJ6.out; omega
                      case rel => exact ⟨(y127), (true), (wrap64 (x13_1 + 1)), (by first | rfl | (simp; done) | (simp [*]; done)), (by first | rfl | (simp; done) | (simp [*]; done)), H', ⟨by have := HK1.out; have := HJ6.out; omega⟩, ⟨by (with_reducible repeat (first | apply Kd.R_alloc | apply Kd.R_drewN | apply Kd.R_drew)); exact Kd.R_mono HO129.out (fun _ hk => trivial)⟩, ⟨by repeat (first | (with_reducible first | exact HB.out | apply below_alloc | apply pw_below_drewN | apply below_drew1 | refine below_set ?_ GE126.out) | exact HB.out)⟩⟩
                    · rw [if_neg c14] at H
                      have c14b0 : (((rd_T40 l0 x13_1).f0) == a1) = false := beq_eq_false_iff_ne.mpr c14
                      have c14b1 : (((rd_T40 l0 x13_1).f0) != a1) = true := bne_iff_ne.mpr c14
                      by_cases c17 : y127.length < 8796093022208
                      · rw [if_pos c17] at H
                        have LMc17 := Aside0.mk c17
                        clear c17
                        obtain ⟨y130, hy130⟩ : ∃ y_ : List (S40), y_ = (y127 ++ [(⟨((rd_T40 l0 x13_1).f0), ((rd_T40 l0 x13_1).f1)⟩ : S40)]) := ⟨_, rfl⟩
                        replace H : (boscagelaw02_Put.l0 kj6 a1 a2 y130 true l0 (l0.length : Int) (wrap64 (x13_1 + 1))) = some r := by first | (rw [hy130]; with_reducible exact H) | (have H2_ := (Option.bind_some _ _).symm.trans H; rw [hy130]; with_reducible exact H2_) | (have H2_ := (Option.bind_some _ _).symm.trans H; with_reducible exact H2_) | with_reducible exact H | (rw [hy130]; exact H) | exact H
                        have Ny130 := Aside0.mk hy130
                        clear hy130
                        have H' := Aside0.mk H
                        clear H
                        go_wp2_with (first | ((with_reducible refine gate_builtin (b := .append) (xs := #[.tmp 25, .tmp 29]) rfl ?_); at_builtin; refine Kd.R_append k40 (w0 := w) w.heap.size rfl (.tmp 25) (.tmp 29) 34 40 (.agg #[(.int .i64 0), (.int .i64 0)]) 16 rfl Try.underlying34 info40 rfl (by decide) (by omega) u7 x7_1 (⟨a1, a2⟩ : S40) [.int .i64 a1, .int .i64 a2] (fun k_ => k_ ≠ gb126) (fun _ => False) rfl rfl ?aP (fun _ hk => hk.elim) ?aF ?aO ?aB ?aS ?aL ?_; (case aP => exact k40_mkM _ _ _ (⟨a1, a2⟩ : S40)); (case aB => exact (by repeat (first | (with_reducible first | exact HB.out | apply below_alloc | apply pw_below_drewN | apply below_drew1 | refine below_set ?_ GE126.out) | exact HB.out))); (case aF => exact (fun k_ hk => Kd.freshB (g := gb126) (o := .cells #[.int .i64 ((rd_T40 l0 x13_1).f0), .int .i64 ((rd_T40 l0 x13_1).f1)] 40 (0, 0)) (by (with_reducible repeat (first | refine blk_drewN ?_ _ | refine blk_drew ?_ | refine blk_alloc ?_ _)); exact BK126.out) k_ hk)); (case aO => exact (by (with_reducible repeat (first | apply Kd.R_alloc | apply Kd.R_drewN | apply Kd.R_drew)); exact HO_7.out)); (case aS => exact (below_size (by repeat (first | (with_reducible first | exact HB.out | apply below_alloc | apply pw_below_drewN | apply below_drew1 | refine below_set ?_ GE126.out) | exact HB.out)))); (case aL => have := LMc13.out; omega); intro v128 w18 ho hb hg hat; rw [← Ny127.out] at ho; have n0_ := Aside0.mk (blk_grown (g := gb126) (o := .cells #[.int .i64 ((rd_T40 l0 x13_1).f0), .int .i64 ((rd_T40 l0 x13_1).f1)] 40 (0, 0)) (by (with_reducible repeat (first | refine blk_drewN ?_ _ | refine blk_drew ?_ | refine blk_alloc ?_ _)); exact BK126.out) hg (Kd.R_away HO_7.out (fun _ hk => hk))); have n1_ := Aside0.mk (hb); have n2_ := Aside0.mk (ho); clear BK126; clear HB; clear HO_7; have BK126 := n0_; have HB := n1_; have HO129 := n2_; clear n0_ n1_ n2_; clear ho hb hg hat; have hcz19_0 : w18.cell? ⟨gb126, 0, none⟩ = some (.int .i64 ((rd_T40 l0 x13_1).f0)) := (blk_cell BK126.out 0).trans rfl; have hcz19_1 : w18.cell? ⟨gb126, 1, none⟩ = some (.int .i64 ((rd_T40 l0 x13_1).f1)) := (blk_cell BK126.out 1).trans rfl; have hfz19_0 := blk_frozen BK126.out 0; have hfz19_1 := blk_frozen BK126.out 1) | ((with_reducible refine gate_builtin (b := .append) (xs := #[.tmp 35, .tmp 37]) rfl ?_); at_builtin; refine Kd.R_append k40 (w0 := w) w.heap.size rfl (.tmp 35) (.tmp 37) 34 40 (.agg #[(.int .i64 0), (.int .i64 0)]) 16 rfl Try.underlying34 info40 rfl (by decide) (by omega) v128 y127 (⟨((rd_T40 l0 x13_1).f0), ((rd_T40 l0 x13_1).f1)⟩ : S40) [.int .i64 ((rd_T40 l0 x13_1).f0), .int .i64 ((rd_T40 l0 x13_1).f1)] (fun k_ => k_ ≠ gb126) (fun _ => False) rfl rfl ?aP (fun _ hk => hk.elim) ?aF ?aO ?aB ?aS ?aL ?_; (case aP => exact k40_mkM _ _ _ (⟨((rd_T40 l0 x13_1).f0), ((rd_T40 l0 x13_1).f1)⟩ : S40)); (case aB => exact (by repeat (first | (with_reducible first | exact HB.out | apply below_alloc | apply pw_below_drewN | apply below_drew1 | refine below_set ?_ GE126.out) | exact HB.out))); (case aF => exact (fun k_ hk => Kd.freshB (g := gb126) (o := .cells #[.int .i64 ((rd_T40 l0 x13_1).f0), .int .i64 ((rd_T40 l0 x13_1).f1)] 40 (0, 0)) (by (with_reducible repeat (first | refine blk_drewN ?_ _ | refine blk_drew ?_ | refine blk_alloc ?_ _)); exact BK126.out) k_ hk)); (case aO => exact (by (with_reducible repeat (first | apply Kd.R_alloc | apply Kd.R_drewN | apply Kd.R_drew)); exact HO129.out)); (case aS => exact (below_size (by repeat (first | (with_reducible first | exact HB.out | apply below_alloc | apply pw_below_drewN | apply below_drew1 | refine below_set ?_ GE126.out) | exact HB.out)))); (case aL => have := LMc17.out; omega); intro v131 w20 ho hb hg hat; rw [← Ny130.out] at ho; have n0_ := Aside0.mk (blk_grown (g := gb126) (o := .cells #[.int .i64 ((rd_T40 l0 x13_1).f0), .int .i64 ((rd_T40 l0 x13_1).f1)] 40 (0, 0)) (by (with_reducible repeat (first | refine blk_drewN ?_ _ | refine blk_drew ?_ | refine blk_alloc ?_ _)); exact BK126.out) hg (Kd.R_away HO129.out (fun _ hk => hk))); have n1_ := Aside0.mk (hb); have n2_ := Aside0.mk (ho); clear BK126; clear HB; clear HO129; have BK126 := n0_; have HB := n1_; have HO132 := n2_; clear n0_ n1_ n2_; clear ho hb hg hat))
                        go_roundg kj6
                        case measure => have := HK1.out; have := HJ6.out; omega
                        case rel => exact ⟨(y130), (true), (wrap64 (x13_1 + 1)), (by first | rfl | (simp; done) | (simp [*]; done)), (by first | rfl | (simp; done) | (simp [*]; done)), H', ⟨by have := HK1.out; have := HJ6.out; omega⟩, ⟨by (with_reducible repeat (first | apply Kd.R_alloc | apply Kd.R_drewN | apply Kd.R_drew)); exact Kd.R_mono HO132.out (fun _ hk => trivial)⟩, ⟨by repeat (first | (with_reducible first | exact HB.out | apply below_alloc | apply pw_below_drewN | apply below_drew1 | refine below_set ?_ GE126.out) | exact HB.out)⟩⟩
                      · rw [if_neg c17] at H
                        exact absurd H (by simp)
                  · rw [if_neg c13] at H
                    exact absurd H (by simp)
                · replace c12 := Bool.eq_false_iff.mpr c12
                  subst c12
                  have H1 : (if ((rd_T40 l0 x13_1).f0) = a1 then (boscagelaw02_Put.l0 kj6 a1 a2 x7_1 x8_1 l0 (l0.length : Int) (wrap64 (x13_1 + 1))) else (if x7_1.length < 8796093022208 then (boscagelaw02_Put.l0 kj6 a1 a2 (x7_1 ++ [(⟨((rd_T40 l0 x13_1).f0), ((rd_T40 l0 x13_1).f1)⟩ : S40)]) x8_1 l0 (l0.length : Int) (wrap64 (x13_1 + 1))) else (none))) = some r := by rw [if_neg (show ¬ (false = true) by decide)] at H; exact H
                  clear H
                  have H := H1
                  clear H1
                  by_cases c21 : ((rd_T40 l0 x13_1).f0) = a1
                  · rw [if_pos c21] at H
                    have c21b0 : (((rd_T40 l0 x13_1).f0) == a1) = true := beq_iff_eq.mpr c21
                    have c21b1 : (((rd_T40 l0 x13_1).f0) != a1) = false := bne_eq_false_iff_eq.mpr c21
                    clear c21
                    have H' := Aside0.mk H
                    clear H
                    have hcz22_0 : wc.cell? ⟨gb126, 0, none⟩ = some (.int .i64 ((rd_T40 l0 x13_1).f0)) := (blk_cell BK126.out 0).trans rfl
                    have hcz22_1 : wc.cell? ⟨gb126, 1, none⟩ = some (.int .i64 ((rd_T40 l0 x13_1).f1)) := (blk_cell BK126.out 1).trans rfl
                    have hfz22_0 := blk_frozen BK126.out 0
                    have hfz22_1 := blk_frozen BK126.out 1
                    go_wp2
                    go_roundg kj6
                    case measure => have := HK1.out; have := HJ6.out; omega
                    case rel => exact ⟨(x7_1), (x8_1), (wrap64 (x13_1 + 1)), (by first | rfl | (simp; done) | (simp [*]; done)), (by first | rfl | (simp; done) | (simp [*]; done)), H', ⟨by have := HK1.out; have := HJ6.out; omega⟩, ⟨by (with_reducible repeat (first | apply Kd.R_alloc | apply Kd.R_drewN | apply Kd.R_drew)); exact Kd.R_mono HO_7.out (fun _ hk => trivial)⟩, ⟨by repeat (first | (with_reducible first | exact HB.out | apply below_alloc | apply pw_below_drewN | apply below_drew1 | refine below_set ?_ GE126.out) | exact HB.out)⟩⟩
                  · rw [if_neg c21] at H
                    have c21b0 : (((rd_T40 l0 x13_1).f0) == a1) = false := beq_eq_false_iff_ne.mpr c21
                    have c21b1 : (((rd_T40 l0 x13_1).f0) != a1) = true := bne_iff_ne.mpr c21
                    by_cases c23 : x7_1.length < 8796093022208
                    · rw [if_pos c23] at H
                      have LMc23 := Aside0.mk c23
                      clear c23
                      obtain ⟨y133, hy133⟩ : ∃ y_ : List (S40), y_ = (x7_1 ++ [(⟨((rd_T40 l0 x13_1).f0), ((rd_T40 l0 x13_1).f1)⟩ : S40)]) := ⟨_, rfl⟩
                      replace H : (boscagelaw02_Put.l0 kj6 a1 a2 y133 x8_1 l0 (l0.length : Int) (wrap64 (x13_1 + 1))) = some r := by first | (rw [hy133]; with_reducible exact H) | (have H2_ := (Option.bind_some _ _).symm.trans H; rw [hy133]; with_reducible exact H2_) | (have H2_ := (Option.bind_some _ _).symm.trans H; with_reducible exact H2_) | with_reducible exact H | (rw [hy133]; exact H) | exact H
                      have Ny133 := Aside0.mk hy133
                      clear hy133
                      have H' := Aside0.mk H
                      clear H
                      have hcz24_0 : wc.cell? ⟨gb126, 0, none⟩ = some (.int .i64 ((rd_T40 l0 x13_1).f0)) := (blk_cell BK126.out 0).trans rfl
                      have hcz24_1 : wc.cell? ⟨gb126, 1, none⟩ = some (.int .i64 ((rd_T40 l0 x13_1).f1)) := (blk_cell BK126.out 1).trans rfl
                      have hfz24_0 := blk_frozen BK126.out 0
                      have hfz24_1 := blk_frozen BK126.out 1
                      go_wp2_with (first | ((with_reducible refine gate_builtin (b := .append) (xs := #[.tmp 35, .tmp 37]) rfl ?_); at_builtin; refine Kd.R_append k40 (w0 := w) w.heap.size rfl (.tmp 35) (.tmp 37) 34 40 (.agg #[(.int .i64 0), (.int .i64 0)]) 16 rfl Try.underlying34 info40 rfl (by decide) (by omega) u7 x7_1 (⟨((rd_T40 l0 x13_1).f0), ((rd_T40 l0 x13_1).f1)⟩ : S40) [.int .i64 ((rd_T40 l0 x13_1).f0), .int .i64 ((rd_T40 l0 x13_1).f1)] (fun k_ => k_ ≠ gb126) (fun _ => False) rfl rfl ?aP (fun _ hk => hk.elim) ?aF ?aO ?aB ?aS ?aL ?_; (case aP => exact k40_mkM _ _ _ (⟨((rd_T40 l0 x13_1).f0), ((rd_T40 l0 x13_1).f1)⟩ : S40)); (case aB => exact (by repeat (first | (with_reducible first | exact HB.out | apply below_alloc | apply pw_below_drewN | apply below_drew1 | refine below_set ?_ GE126.out) | exact HB.out))); (case aF => exact (fun k_ hk => Kd.freshB (g := gb126) (o := .cells #[.int .i64 ((rd_T40 l0 x13_1).f0), .int .i64 ((rd_T40 l0 x13_1).f1)] 40 (0, 0)) (by (with_reducible repeat (first | refine blk_drewN ?_ _ | refine blk_drew ?_ | refine blk_alloc ?_ _)); exact BK126.out) k_ hk)); (case aO => exact (by (with_reducible repeat (first | apply Kd.R_alloc | apply Kd.R_drewN | apply Kd.R_drew)); exact HO_7.out)); (case aS => exact (below_size (by repeat (first | (with_reducible first | exact HB.out | apply below_alloc | apply pw_below_drewN | apply below_drew1 | refine below_set ?_ GE126.out) | exact HB.out)))); (case aL => have := LMc23.out; omega); intro v134 w25 ho hb hg hat; rw [← Ny133.out] at ho; have n0_ := Aside0.mk (blk_grown (g := gb126) (o := .cells #[.int .i64 ((rd_T40 l0 x13_1).f0), .int .i64 ((rd_T40 l0 x13_1).f1)] 40 (0, 0)) (by (with_reducible repeat (first | refine blk_drewN ?_ _ | refine blk_drew ?_ | refine blk_alloc ?_ _)); exact BK126.out) hg (Kd.R_away HO_7.out (fun _ hk => hk))); have n1_ := Aside0.mk (hb); have n2_ := Aside0.mk (ho); clear BK126; clear HB; clear HO_7; have BK126 := n0_; have HB := n1_; have HO135 := n2_; clear n0_ n1_ n2_; clear ho hb hg hat))
                      go_roundg kj6
                      case measure => have := HK1.out; have := HJ6.out; omega
                      case rel => exact ⟨(y133), (x8_1), (wrap64 (x13_1 + 1)), (by first | rfl | (simp; done) | (simp [*]; done)), (by first | rfl | (simp; done) | (simp [*]; done)), H', ⟨by have := HK1.out; have := HJ6.out; omega⟩, ⟨by (with_reducible repeat (first | apply Kd.R_alloc | apply Kd.R_drewN | apply Kd.R_drew)); exact Kd.R_mono HO135.out (fun _ hk => trivial)⟩, ⟨by repeat (first | (with_reducible first | exact HB.out | apply below_alloc | apply pw_below_drewN | apply below_drew1 | refine below_set ?_ GE126.out) | exact HB.out)⟩⟩
                    · rw [if_neg c23] at H
                      exact absurd H (by simp)
          · rw [if_neg c6] at H
            exact absurd H (by simp)
        · rw [if_neg c5] at H
          exact absurd H (by simp)
      · rw [if_neg c4] at H
        have c4b0 : decide (x13_1 < (l0.length : Int)) = false := decide_eq_false c4
        clear c4
        by_cases c26 : x8_1 = true
        · subst c26
          have H1 : (some x7_1) = some r := by rw [if_pos rfl] at H; exact H
          clear H
          have H := H1
          clear H1
          obtain rfl := Option.some.inj H
          go_wp2
          go_ret
          exact ⟨_, by first | rfl | (simp [errW_none, errW_some] <;> rfl) | (simp [*, errW_none, errW_some] <;> rfl), by (with_reducible repeat (first | apply Kd.R_alloc | apply Kd.R_drewN | apply Kd.R_drew)); exact HO_7.out, by repeat (first | (with_reducible first | exact HB.out | apply below_alloc | apply pw_below_drewN | apply below_drew1) | exact HB.out)⟩
        · replace c26 := Bool.eq_false_iff.mpr c26
          subst c26
          have H1 : (if x7_1.length < 8796093022208 then (some (x7_1 ++ [(⟨a1, a2⟩ : S40)])) else (none)) = some r := by rw [if_neg (show ¬ (false = true) by decide)] at H; exact H
          clear H
          have H := H1
          clear H1
          by_cases c27 : x7_1.length < 8796093022208
          · rw [if_pos c27] at H
            have LMc27 := Aside0.mk c27
            clear c27
            obtain ⟨y122, hy122⟩ : ∃ y_ : List (S40), y_ = (x7_1 ++ [(⟨a1, a2⟩ : S40)]) := ⟨_, rfl⟩
            replace H : (some y122) = some r := by first | (rw [hy122]; with_reducible exact H) | (have H2_ := (Option.bind_some _ _).symm.trans H; rw [hy122]; with_reducible exact H2_) | (have H2_ := (Option.bind_some _ _).symm.trans H; with_reducible exact H2_) | with_reducible exact H | (rw [hy122]; exact H) | exact H
            have Ny122 := Aside0.mk hy122
            clear hy122
            obtain rfl := Option.some.inj H
            go_wp2_with (first | ((with_reducible refine gate_builtin (b := .append) (xs := #[.tmp 42, .tmp 46]) rfl ?_); at_builtin; refine Kd.R_append k40 (w0 := w) w.heap.size rfl (.tmp 42) (.tmp 46) 34 40 (.agg #[(.int .i64 0), (.int .i64 0)]) 16 rfl Try.underlying34 info40 rfl (by decide) (by omega) u7 x7_1 (⟨a1, a2⟩ : S40) [.int .i64 a1, .int .i64 a2] (fun _ => True) (fun _ => False) rfl rfl ?aP (fun _ hk => hk.elim) ?aF ?aO ?aB ?aS ?aL ?_; (case aP => exact k40_mkM _ _ _ (⟨a1, a2⟩ : S40)); (case aB => exact (by repeat (first | (with_reducible first | exact HB.out | apply below_alloc | apply pw_below_drewN | apply below_drew1) | exact HB.out))); (case aF => exact (fun _ _ => trivial)); (case aO => exact (by (with_reducible repeat (first | apply Kd.R_alloc | apply Kd.R_drewN | apply Kd.R_drew)); exact HO_7.out)); (case aS => exact (below_size (by repeat (first | (with_reducible first | exact HB.out | apply below_alloc | apply pw_below_drewN | apply below_drew1) | exact HB.out)))); (case aL => have := LMc27.out; omega); intro v123 w28 ho hb hg hat; rw [← Ny122.out] at ho; have n0_ := Aside0.mk (hb); have n1_ := Aside0.mk (ho); clear HB; clear HO_7; have HB := n0_; have HO124 := n1_; clear n0_ n1_; clear ho hb hg hat))
            go_ret
            exact ⟨_, by first | rfl | (simp [errW_none, errW_some] <;> rfl) | (simp [*, errW_none, errW_some] <;> rfl), by (with_reducible repeat (first | apply Kd.R_alloc | apply Kd.R_drewN | apply Kd.R_drew)); exact HO124.out, by repeat (first | (with_reducible first | exact HB.out | apply below_alloc | apply pw_below_drewN | apply below_drew1) | exact HB.out)⟩
          · rw [if_neg c27] at H
            exact absurd H (by simp)

def boscagelaw02_Rising.l0 : Nat → List (S40) → List Int → Int → Int → Option ((List (S40)))
  | 0, _, _, _, _ => none
  | k + 1, x3, x6, x7, x8 => if x8 < x7 then (if 0 ≤ x8 then (if x8 < (x6.length : Int) then ((boscagelaw02_Put.f k x3 (rd x6 x8) (wrap64 (x8 + 100))).bind fun t137 => (boscagelaw02_Rising.l0 k t137 x6 x7 (wrap64 (x8 + 1)))) else (none)) else (none)) else (some x3)
def boscagelaw02_Rising.f (k : Nat) (l0 : List Int) : Option ((List (S40))) := boscagelaw02_Rising.l0 k ([] : List (S40)) l0 (l0.length : Int) 0
set_option maxHeartbeats 8000000 in
set_option maxRecDepth 100000 in
theorem boscagelaw02_Rising.calls (k : Nat) (A0 : Option Addr) (c0 : Nat) (l0 : List Int) (r : List (S40)) (w : World) (hr0 : Kd.C (Kd.int .i64) w A0 l0.length l0) (hc0 : l0.length ≤ c0) (h : boscagelaw02_Rising.f k l0 = some r) :
    Calls Try.prog 44 #[.slice A0 l0.length c0] w fun e w' => ∃ v0_ : Value, e = .returned (v0_) ∧ Kd.R k40 40 w' w.heap.size (fun _ => True) v0_ r ∧ Below w.heap.size w w' := by
  have HR0 := Aside0.mk hr0
  have HC0 := Aside0.mk hc0
  clear hr0 hc0
  have HB := Aside0.mk (Below.refl w.heap.size w)
  have H : (boscagelaw02_Rising.l0 k ([] : List (S40)) l0 (l0.length : Int) 0) = some r := h
  clear h
  have H' := Aside0.mk H
  clear H
  go_enter Try.func44, Try.ntmps44
  go_wp2
  go_loopg [3, 8] k (fun kq v3 v8 w' => ∃ (x3_1 : List (S40)) (x8_1 : Int), v8 = .int .i64 x8_1 ∧ Aside0 (boscagelaw02_Rising.l0 kq x3_1 l0 (l0.length : Int) x8_1 = some r) ∧ Aside0 (kq ≤ k) ∧ Aside0 (Kd.R k40 40 w' w.heap.size (fun _ => True) v3 x3_1) ∧ Aside0 (Below w.heap.size w w'))
  case atStart => exact ⟨(([] : List (S40))), (0), (by first | rfl | (simp; done) | (simp [*]; done)), H', ⟨Nat.le_refl _⟩, ⟨by first | exact Kd.R_nil _ _ _ _ _ | exact Kd.N_nil _ _ _ _ _ | exact Kd.V_nil _ _ _ _ _ | exact Kd.Q_nil _ _ _ _ _ | exact Kd.S_nil _ _ _ _ _⟩, ⟨by repeat (first | (with_reducible first | exact HB.out | apply below_alloc | apply pw_below_drewN | apply below_drew1) | exact HB.out)⟩⟩
  case round =>
    clear H'
    obtain ⟨x3_1, x8_1, rfl, HA, HK1, HO_3, HB⟩ := hrel
    cases gk with
    | zero => exact absurd HA.out (by simp [boscagelaw02_Rising.l0])
    | succ k1 =>
      have H := HA.out
      clear HA
      simp only [boscagelaw02_Rising.l0] at H
      by_cases c2 : x8_1 < (l0.length : Int)
      · rw [if_pos c2] at H
        have c2b0 : decide (x8_1 < (l0.length : Int)) = true := decide_eq_true c2
        clear c2
        by_cases c3 : 0 ≤ x8_1
        · rw [if_pos c3] at H
          have c3b0 : decide (0 ≤ x8_1) = true := decide_eq_true c3
          clear c3
          by_cases c4 : x8_1 < (l0.length : Int)
          · rw [if_pos c4] at H
            have c4b0 : decide (x8_1 < (l0.length : Int)) = true := decide_eq_true c4
            clear c4
            replace H := Option.bind_eq_some_iff.mp H
            obtain ⟨t137, A50, H⟩ := H
            replace H : (boscagelaw02_Rising.l0 k1 t137 l0 (l0.length : Int) (wrap64 (x8_1 + 1))) = some r := H
            have A5 := Aside0.mk A50
            clear A50
            have H' := Aside0.mk H
            clear H
            have p136 : 0 ≤ (x8_1 : Int) := of_decide_eq_true (by first | (with_reducible assumption) | assumption)
            have q136 : x8_1 < (l0.length : Int) := of_decide_eq_true (by first | (with_reducible assumption) | assumption)
            obtain ⟨ad136, e136, hx136_0⟩ := Kd.at_int HR0.out x8_1 p136 q136
            cases e136
            replace hx136_0 := (HB.out.cell (World.block_lt_of_cell? w _ hx136_0)).trans hx136_0
            replace p136 := eq_true p136
            replace q136 := eq_true q136
            obtain ⟨Ao6, co6, eo6⟩ := Kd.R_slice HO_3.out
            subst eo6
            go_wp2_with (first | ((with_reducible refine gate_callee (f := 69) rfl ?_); refine goesL_ (some 17) rfl rfl Try.func69 (by kernel_rfl) rfl #[.slice Ao6 x3_1.length co6, .int .i64 (rd l0 x8_1), .int .i64 (wrap64 (x8_1 + 100))] rfl (by (try simp only [List.map_toArray, List.map_cons, List.map_nil]); first | done | rfl | (simp only [List.length_drop, List.length_take]; rfl)) ?_; (with_reducible refine (boscagelaw02_Put.calls k1 _ _ x3_1 (rd l0 x8_1) (wrap64 (x8_1 + 100)) t137 _ ?side1 ?side2 A5.out).mono ?_); (case side1 => repeat (first | exact (Kd.R_reads' HO_3.out).2.2 | (with_reducible refine Kd.C_alloc ?_ _) | (with_reducible refine Kd.C_drewN ?_ _) | (with_reducible refine Kd.C_drew ?_))); (case side2 => exact (Kd.R_reads' HO_3.out).2.1); rintro e w7 ⟨v138, rfl, ho0, hb⟩; refine ⟨_, rfl, ?_⟩; have n0_ := Aside0.mk (Kd.R_elder' (by (with_reducible repeat (first | apply Kd.R_alloc | apply Kd.R_drewN | apply Kd.R_drew)); exact HO_3.out) (Kd.R_base ho0) hb); have n1_ := Aside0.mk (Kd.R_lower (Kd.R_new' ho0 (Kd.R_lt (by (with_reducible repeat (first | apply Kd.R_alloc | apply Kd.R_drewN | apply Kd.R_drew)); exact HO_3.out))) (below_size (by repeat (first | (with_reducible first | exact HB.out | apply below_alloc | apply pw_below_drewN | apply below_drew1) | exact HB.out)))); have n2_ := Aside0.mk (below_step (by repeat (first | (with_reducible first | exact HB.out | apply below_alloc | apply pw_below_drewN | apply below_drew1) | exact HB.out)) hb); clear HO_3; clear HB; have HO_3 := n0_; have HO139 := n1_; have HB := n2_; clear n0_ n1_ n2_; (try clear hb); (try clear hb2); (try clear hk); (try clear hi); (try clear ho0)))
            go_roundg k1
            case measure => have := HK1.out; omega
            case rel => exact ⟨(t137), (wrap64 (x8_1 + 1)), (by first | rfl | (simp; done) | (simp [*]; done)), H', ⟨by have := HK1.out; omega⟩, ⟨by (with_reducible repeat (first | apply Kd.R_alloc | apply Kd.R_drewN | apply Kd.R_drew)); exact Kd.R_mono HO139.out (fun _ hk => trivial)⟩, ⟨by repeat (first | (with_reducible first | exact HB.out | apply below_alloc | apply pw_below_drewN | apply below_drew1) | exact HB.out)⟩⟩
          · rw [if_neg c4] at H
            exact absurd H (by simp)
        · rw [if_neg c3] at H
          exact absurd H (by simp)
      · rw [if_neg c2] at H
        have c2b0 : decide (x8_1 < (l0.length : Int)) = false := decide_eq_false c2
        clear c2
        obtain rfl := Option.some.inj H
        go_wp2
        go_ret
        exact ⟨_, by first | rfl | (simp [errW_none, errW_some] <;> rfl) | (simp [*, errW_none, errW_some] <;> rfl), by (with_reducible repeat (first | apply Kd.R_alloc | apply Kd.R_drewN | apply Kd.R_drew)); exact HO_3.out, by repeat (first | (with_reducible first | exact HB.out | apply below_alloc | apply pw_below_drewN | apply below_drew1) | exact HB.out)⟩

def enc40 (x : S40) : List Value := [.int .i64 x.f0, .int .i64 x.f1]
theorem flat40 : Flat k40 enc40 := ⟨fun w x cs => ⟨fun h => k40_open h, fun h => h ▸ k40_mk w x⟩, fun w b o x cs => ⟨fun h => k40_openM h, fun h => h ▸ k40_mkM w b o x⟩, fun _ => rfl, by decide⟩
theorem at40 {w wr : World} {A : Option Addr} {l : List S40} (hr : Kd.C k40 w A l.length l) (hb : Below w.heap.size w wr) (h : Nat) (p : S40) (hp : l[h]? = some p) : ∃ b o, A = some ⟨b, o, none⟩ ∧ wr.cell? ⟨b, o + h * 2, none⟩ = some (.int .i64 p.f0) ∧ wr.cell? ⟨b, o + h * 2 + 1, none⟩ = some (.int .i64 p.f1) := by
  rcases C_at flat40 (Kd.C_below hr hb) with h0 | ⟨b, o, rfl, hc⟩
  · have h1 := flatMap_get flat40 l h 0 p _ hp rfl
    rw [h0] at h1
    cases h1
  · exact ⟨b, o, rfl, hc _ _ (flatMap_get flat40 l h 0 p _ hp rfl), hc _ _ (flatMap_get flat40 l h 1 p _ hp rfl)⟩
abbrev srt (l : List S40) : Prop := l.Pairwise (fun a b => a.f0 < b.f0)
def kcnt (l : List S40) (k : Int) : Nat := l.countP (fun p => decide (p.f0 < k))
def khas (l : List S40) (k : Int) : Bool := l.any (fun p => decide (p.f0 = k))
/-- In a list whose keys rise: how many are below a key, and whether it is there. -/
def leaf_Leaf_find.f (l0 : List S40) (a1 : Int) : Option (Int × Bool) := if srt l0 ∧ l0.length < 8796093022208 then some ((kcnt l0 a1 : Int), khas l0 a1) else none
theorem kcnt_le (l : List S40) (k : Int) : kcnt l k ≤ l.length := List.countP_le_length
theorem kcnt_boundary (k : Int) : ∀ (l : List S40) (i : Nat), i ≤ l.length → (∀ t p, t < i → l[t]? = some p → p.f0 < k) → (∀ t p, i ≤ t → l[t]? = some p → k ≤ p.f0) → kcnt l k = i
  | [], i, hi, _, _ => by simp at hi; simp [hi, kcnt]
  | a :: r, 0, _, _, h2 => by
    unfold kcnt
    rw [List.countP_eq_zero]
    intro x hx
    obtain ⟨t, ht, rfl⟩ := List.getElem_of_mem hx
    have := h2 t _ (Nat.zero_le _) (List.getElem?_eq_getElem ht)
    simpa using this
  | a :: r, i + 1, hi, h1, h2 => by
    have ha : decide (a.f0 < k) = true := decide_eq_true (h1 0 a (Nat.succ_pos _) rfl)
    have := kcnt_boundary k r i (by simpa using hi) (fun t p ht hp => h1 (t + 1) p (by omega) (by simpa using hp)) (fun t p h3 h4 => h2 (t + 1) p (by omega) (by simpa using h4))
    unfold kcnt at this ⊢
    rw [List.countP_cons_of_pos (by simpa using ha), this]
theorem khas_at {l : List S40} (hs : srt l) (k : Int) (i : Nat) (h1 : ∀ t p, t < i → l[t]? = some p → p.f0 < k) (h2 : ∀ t p, i ≤ t → l[t]? = some p → k ≤ p.f0) : khas l k = true ↔ ∃ p, l[i]? = some p ∧ p.f0 = k := by
  unfold khas
  rw [List.any_eq_true]
  constructor
  · rintro ⟨x, hx, he⟩
    obtain ⟨t, ht, rfl⟩ := List.getElem_of_mem hx
    have he : (l[t]).f0 = k := by simpa using he
    have h3 : i ≤ t := by
      refine Nat.le_of_not_lt fun h => ?_
      have := h1 t _ h (List.getElem?_eq_getElem ht)
      omega
    have hi : i < l.length := by omega
    refine ⟨l[i], List.getElem?_eq_getElem hi, ?_⟩
    rcases Nat.lt_or_ge i t with h | h
    · have h4 := List.pairwise_iff_getElem.1 hs i t hi ht h
      have h5 := h2 i _ (Nat.le_refl _) (List.getElem?_eq_getElem hi)
      omega
    · obtain rfl : i = t := by omega
      exact he
  · rintro ⟨p, hp, he⟩
    exact ⟨p, List.mem_of_getElem? hp, by simpa using he⟩
def cmp3 (a k : Int) : Int := if a < k then -1 else if a > k then 1 else 0
set_option maxHeartbeats 2000000 in
set_option maxRecDepth 100000 in
theorem cmp_calls (p : S40) (k : Int) (w : World) :
    Calls Try.prog 124 #[.agg #[.int .i64 p.f0, .int .i64 p.f1], .int .i64 k] w fun e w' => e = .returned (.int .i64 (cmp3 p.f0 k)) ∧ Below w.heap.size w w' := by
  have hu40 := Try.underlying40
  generalize p.f0 = a
  generalize p.f1 = b
  by_cases h1 : a < k
  · have hd : cmp3 a k = -1 := by simp [cmp3, h1]
    rw [hd]
    clear hd
    go_enter Try.func124, Try.ntmps124
    go_wp2
    go_ret
    exact ⟨rfl, (Below.refl _ _).alloc (Nat.le_refl _) _⟩
  · by_cases h2 : a > k
    · have hd : cmp3 a k = 1 := by simp [cmp3, h1, h2]
      rw [hd]
      clear hd
      go_enter Try.func124, Try.ntmps124
      go_wp2
      go_ret
      exact ⟨rfl, (Below.refl _ _).alloc (Nat.le_refl _) _⟩
    · have hd : cmp3 a k = 0 := by simp [cmp3, h1, h2]
      rw [hd]
      clear hd
      go_enter Try.func124, Try.ntmps124
      go_wp2
      go_ret
      exact ⟨rfl, (Below.refl _ _).alloc (Nat.le_refl _) _⟩
set_option maxHeartbeats 4000000 in
set_option maxRecDepth 100000 in
theorem search_calls (A0 : Option Addr) (c0 : Nat) (l0 : List S40) (a1 : Int) (w : World) (hr0 : Kd.C k40 w A0 l0.length l0) (hs : srt l0) (hl : l0.length < 8796093022208) :
    Calls Try.prog 123 #[.slice A0 l0.length c0, .int .i64 a1, .func (.func 124) #[] #[]] w fun e w' => e = .returned (.tuple #[.int .i64 (kcnt l0 a1 : Int), .bool (khas l0 a1)]) ∧ Below w.heap.size w w' := by
  have hu40 := Try.underlying40
  have HR := Lib.hid hr0
  have HS := Lib.hid hs
  clear hr0 hs
  have S0 := Lib.hid (Below.refl w.heap.size w)
  generalize hcnt : (kcnt l0 a1 : Int) = cnt
  have CN := Lib.hid hcnt
  clear hcnt
  generalize hfin : khas l0 a1 = fin
  have FIN := Lib.hid hfin
  clear hfin
  go_enter Try.func123, Try.ntmps123
  go_wp2
  go_loopg [9, 10] l0.length (fun kx s9 s10 wr => ∃ lo hi : Nat, s9 = .int .i64 lo ∧ s10 = .int .i64 hi ∧ lo ≤ hi ∧ hi ≤ l0.length ∧ hi - lo ≤ kx ∧ Hid (Below w.heap.size w wr) ∧
    Hid ((∀ t p, t < lo → l0[t]? = some p → p.f0 < a1) ∧ (∀ t p, hi ≤ t → l0[t]? = some p → a1 ≤ p.f0)))
  case atStart => exact ⟨0, l0.length, rfl, rfl, Nat.zero_le _, Nat.le_refl _, by omega, S0, Lib.hid ⟨fun t p ht => absurd ht (Nat.not_lt_zero _), fun t p h1 h2 => by rw [List.getElem?_eq_none h1] at h2; cases h2⟩⟩
  case round =>
    clear S0
    obtain ⟨lo, hi, rfl, rfl, hlh, hin, hg, S1, I⟩ := hrel
    by_cases hlt : lo < hi
    · have hm : (lo + hi) / 2 < l0.length := by omega
      obtain ⟨p, hp⟩ : ∃ p, l0[(lo + hi) / 2]? = some p := ⟨_, List.getElem?_eq_getElem hm⟩
      obtain ⟨b, o, rfl, hx0, hx1⟩ := at40 HR.out S1.out _ p hp
      have HP := Lib.hid hp
      clear hp
      have hc := cmp_calls p a1 wr
      by_cases hyx : p.f0 < a1
      · have hy : cmp3 p.f0 a1 = -1 := by simp [cmp3, hyx]
        rw [hy] at hc
        clear hy
        have I2 : Hid ((∀ t p, t < (lo + hi) / 2 + 1 → l0[t]? = some p → p.f0 < a1) ∧ (∀ t p, hi ≤ t → l0[t]? = some p → a1 ≤ p.f0)) := Lib.hid ⟨fun t q ht hq => by
          rcases Nat.lt_or_ge t ((lo + hi) / 2) with h | h
          · obtain ⟨ht', rfl⟩ := List.getElem?_eq_some_iff.1 hq
            obtain ⟨hm', rfl⟩ := List.getElem?_eq_some_iff.1 HP.out
            have := List.pairwise_iff_getElem.1 HS.out t _ ht' hm' h
            omega
          · obtain rfl : t = (lo + hi) / 2 := by omega
            have := HP.out
            rw [hq] at this
            obtain rfl := Option.some.inj this
            exact hyx, I.out.2⟩
        clear I
        generalize p.f0 = pa at hc hyx hx0
        generalize p.f1 = pb at hc hx1
        go_wp2_with (go_at_call 124; refine hc.mono ?_; rintro e w' ⟨rfl, hb1⟩)
        go_roundg (hi - ((lo + hi) / 2 + 1))
        case measure => omega
        case rel => exact ⟨(lo + hi) / 2 + 1, hi, by rw [show ((lo : Int) + (hi : Int)) / 2 + 1 = (((lo + hi) / 2 + 1 : Nat) : Int) by omega], rfl, by omega, hin, Nat.le_refl _, Lib.hid (below_then S1.out S1.out.size hb1), I2⟩
      · have I2 : Hid ((∀ t p, t < lo → l0[t]? = some p → p.f0 < a1) ∧ (∀ t p, (lo + hi) / 2 ≤ t → l0[t]? = some p → a1 ≤ p.f0)) := Lib.hid ⟨I.out.1, fun t q ht hq => by
          rcases Nat.lt_or_ge ((lo + hi) / 2) t with h | h
          · obtain ⟨ht', rfl⟩ := List.getElem?_eq_some_iff.1 hq
            obtain ⟨hm', rfl⟩ := List.getElem?_eq_some_iff.1 HP.out
            have := List.pairwise_iff_getElem.1 HS.out _ t hm' ht' h
            omega
          · obtain rfl : t = (lo + hi) / 2 := by omega
            have := HP.out
            rw [hq] at this
            obtain rfl := Option.some.inj this
            omega⟩
        clear I
        have hy : 0 ≤ cmp3 p.f0 a1 := by unfold cmp3; split; omega; split <;> omega
        generalize cmp3 p.f0 a1 = cc at hc hy
        generalize p.f0 = pa at hc hyx hx0
        generalize p.f1 = pb at hc hx1
        go_wp2_with (go_at_call 124; refine hc.mono ?_; rintro e w' ⟨rfl, hb1⟩)
        go_roundg ((lo + hi) / 2 - lo)
        case measure => omega
        case rel => exact ⟨lo, (lo + hi) / 2, rfl, by rw [show ((lo : Int) + (hi : Int)) / 2 = (((lo + hi) / 2 : Nat) : Int) by omega], by omega, by omega, Nat.le_refl _, Lib.hid (below_then S1.out S1.out.size hb1), I2⟩
    · obtain rfl : hi = lo := by omega
      have ecnt : kcnt l0 a1 = hi := kcnt_boundary a1 l0 hi hin I.out.1 I.out.2
      have hh := khas_at HS.out a1 hi I.out.1 I.out.2
      rw [FIN.out] at hh
      obtain rfl : cnt = (hi : Int) := by rw [← CN.out, ecnt]
      clear CN FIN ecnt I hlt hlh hg
      by_cases hn : hi < l0.length
      · obtain ⟨p, hp⟩ : ∃ p, l0[hi]? = some p := ⟨_, List.getElem?_eq_getElem hn⟩
        obtain ⟨b, o, rfl, hx0, hx1⟩ := at40 HR.out S1.out _ p hp
        have hc := cmp_calls p a1 wr
        have hfin : fin = decide (p.f0 = a1) := by
          rw [Bool.eq_iff_iff, hh, hp]
          simp
        clear hh hp
        by_cases he : p.f0 = a1
        · rw [decide_eq_true he] at hfin
          subst hfin
          have hy : cmp3 p.f0 a1 = 0 := by simp [cmp3, he]
          rw [hy] at hc
          clear hy he
          generalize p.f0 = pa at hc hx0
          generalize p.f1 = pb at hc hx1
          go_wp2_with (go_at_call 124; refine hc.mono ?_; rintro e w' ⟨rfl, hb1⟩)
          go_ret2
          exact ⟨rfl, below_then S1.out S1.out.size hb1⟩
        · rw [decide_eq_false he] at hfin
          subst hfin
          have hy : (cmp3 p.f0 a1 == 0) = false := by unfold cmp3; split; rfl; split; rfl; omega
          clear he
          generalize cmp3 p.f0 a1 = cc at hc hy
          generalize p.f0 = pa at hc hx0
          generalize p.f1 = pb at hc hx1
          go_wp2_with (go_at_call 124; refine hc.mono ?_; rintro e w' ⟨rfl, hb1⟩)
          go_ret2
          exact ⟨rfl, below_then S1.out S1.out.size hb1⟩
      · have hfin : fin = false := by
          rw [Bool.eq_false_iff]
          intro h
          obtain ⟨p, hp, _⟩ := hh.1 h
          rw [List.getElem?_eq_none (by omega)] at hp
          cases hp
        clear hh
        subst hfin
        go_wp2
        go_ret2
        exact ⟨rfl, S1.out⟩
set_option maxHeartbeats 2000000 in
set_option maxRecDepth 100000 in
theorem leaf_Leaf_find.calls (A0 : Option Addr) (c0 : Nat) (l0 : List S40) (a1 : Int) (r1 : Int) (r2 : Bool) (w : World) (hr0 : Kd.C k40 w A0 l0.length l0) (hc0 : l0.length ≤ c0) (h : leaf_Leaf_find.f l0 a1 = some (r1, r2)) :
    Calls Try.prog 98 #[.slice A0 l0.length c0, .int .i64 a1] w fun e w' => e = .returned (.tuple #[.int .i64 r1, .bool r2]) ∧ Below w.heap.size w w' := by
  unfold leaf_Leaf_find.f at h
  split at h
  · rename_i hs
    obtain ⟨rfl, rfl⟩ := Prod.mk.inj (Option.some.inj h)
    clear h
    have hc := search_calls A0 c0 l0 a1 w hr0 hs.1 hs.2
    generalize (kcnt l0 a1 : Int) = cnt at hc
    generalize khas l0 a1 = fin at hc
    clear hs hr0
    go_enter Try.func98, Try.ntmps98
    go_wp2_with (go_at_call 123; refine hc.mono ?_; rintro e w' ⟨rfl, hb1⟩)
    go_ret2
    exact ⟨rfl, hb1⟩
  · cases h

def leaf_Leaf_Get.f (l0 : List (S40)) (a1 : Int) : Option (Int × Bool) := (leaf_Leaf_find.f l0 a1).bind fun bt177 => (if bt177.2 = true then (if 0 ≤ bt177.1 then (if bt177.1 < (l0.length : Int) then (some ((rd_T40 l0 bt177.1).f1, true)) else (none)) else (none)) else (some (0, false)))
set_option maxHeartbeats 8000000 in
set_option maxRecDepth 100000 in
theorem leaf_Leaf_Get.calls (A0 : Option Addr) (c0 : Nat) (l0 : List (S40)) (a1 : Int) (r1 : Int) (r2 : Bool) (w : World) (hr0 : Kd.C k40 w A0 l0.length l0) (hc0 : l0.length ≤ c0) (h : leaf_Leaf_Get.f l0 a1 = some (r1, r2)) :
    Calls Try.prog 45 #[.slice A0 l0.length c0, .int .i64 a1] w fun e w' => e = .returned (.tuple #[.int .i64 r1, .bool r2]) ∧ Below w.heap.size w w' := by
  have HR0 := Aside0.mk hr0
  have HC0 := Aside0.mk hc0
  clear hr0 hc0
  have HB := Aside0.mk (Below.refl w.heap.size w)
  have H : ((leaf_Leaf_find.f l0 a1).bind fun bt177 => (if bt177.2 = true then (if 0 ≤ bt177.1 then (if bt177.1 < (l0.length : Int) then (some ((rd_T40 l0 bt177.1).f1, true)) else (none)) else (none)) else (some (0, false)))) = some (r1, r2) := h
  clear h
  replace H := Option.bind_eq_some_iff.mp H
  obtain ⟨⟨t177, t178⟩, A30, H⟩ := H
  replace H : (if t178 = true then (if 0 ≤ t177 then (if t177 < (l0.length : Int) then (some ((rd_T40 l0 t177).f1, true)) else (none)) else (none)) else (some (0, false))) = some (r1, r2) := H
  have A3 := Aside0.mk A30
  clear A30
  by_cases c4 : t178 = true
  · subst c4
    have H1 : (if 0 ≤ t177 then (if t177 < (l0.length : Int) then (some ((rd_T40 l0 t177).f1, true)) else (none)) else (none)) = some (r1, r2) := by rw [if_pos rfl] at H; exact H
    clear H
    have H := H1
    clear H1
    by_cases c5 : 0 ≤ t177
    · rw [if_pos c5] at H
      have c5b0 : decide (0 ≤ t177) = true := decide_eq_true c5
      clear c5
      by_cases c6 : t177 < (l0.length : Int)
      · rw [if_pos c6] at H
        have c6b0 : decide (t177 < (l0.length : Int)) = true := decide_eq_true c6
        clear c6
        simp only [Option.some.injEq, Prod.mk.injEq] at H
        obtain ⟨rfl, rfl⟩ := H
        go_enter Try.func45, Try.ntmps45
        go_wp2_with (first | ((with_reducible refine gate_callee (f := 98) rfl ?_); refine goesL_ (some 11) rfl rfl Try.func98 (by kernel_rfl) rfl #[.slice A0 l0.length c0, .int .i64 a1] rfl (by (try simp only [List.map_toArray, List.map_cons, List.map_nil]); first | done | rfl | (simp only [List.length_drop, List.length_take]; rfl)) ?_; (with_reducible refine (leaf_Leaf_find.calls _ _ l0 a1 t177 true _ ?side1 ?side2 A3.out).mono ?_); (case side1 => repeat (first | exact HR0.out | (with_reducible refine Kd.C_alloc ?_ _) | (with_reducible refine Kd.C_drewN ?_ _) | (with_reducible refine Kd.C_drew ?_))); (case side2 => exact HC0.out); rintro e w7 ⟨rfl, hb⟩; refine ⟨_, rfl, ?_⟩; have n0_ := Aside0.mk (below_step (by repeat (first | (with_reducible first | exact HB.out | apply below_alloc | apply pw_below_drewN | apply below_drew1) | exact HB.out)) hb); clear HB; have HB := n0_; clear n0_; (try clear hb); (try clear hb2); (try clear hk); (try clear hi); have p179 : 0 ≤ (t177 : Int) := of_decide_eq_true (by first | (with_reducible assumption) | assumption); have q179 : t177 < (l0.length : Int) := of_decide_eq_true (by first | (with_reducible assumption) | assumption); obtain ⟨ad179, e179, hx179_0, hx179_1⟩ := at_T40 HR0.out t177 p179 q179; cases e179; replace hx179_0 := (HB.out.cell (World.block_lt_of_cell? w _ hx179_0)).trans hx179_0; replace hx179_1 := (HB.out.cell (World.block_lt_of_cell? w _ hx179_1)).trans hx179_1; replace p179 := eq_true p179; replace q179 := eq_true q179))
        go_ret2
        exact ⟨by first | rfl | (simp [errW_none, errW_some] <;> rfl) | (simp [*, errW_none, errW_some] <;> rfl), by repeat (first | (with_reducible first | exact HB.out | apply below_alloc | apply pw_below_drewN | apply below_drew1) | exact HB.out)⟩
      · rw [if_neg c6] at H
        exact absurd H (by simp)
    · rw [if_neg c5] at H
      exact absurd H (by simp)
  · replace c4 := Bool.eq_false_iff.mpr c4
    subst c4
    have H1 : (some (0, false)) = some (r1, r2) := by rw [if_neg (show ¬ (false = true) by decide)] at H; exact H
    clear H
    have H := H1
    clear H1
    simp only [Option.some.injEq, Prod.mk.injEq] at H
    obtain ⟨rfl, rfl⟩ := H
    go_enter Try.func45, Try.ntmps45
    go_wp2_with (first | ((with_reducible refine gate_callee (f := 98) rfl ?_); refine goesL_ (some 11) rfl rfl Try.func98 (by kernel_rfl) rfl #[.slice A0 l0.length c0, .int .i64 a1] rfl (by (try simp only [List.map_toArray, List.map_cons, List.map_nil]); first | done | rfl | (simp only [List.length_drop, List.length_take]; rfl)) ?_; (with_reducible refine (leaf_Leaf_find.calls _ _ l0 a1 t177 false _ ?side1 ?side2 A3.out).mono ?_); (case side1 => repeat (first | exact HR0.out | (with_reducible refine Kd.C_alloc ?_ _) | (with_reducible refine Kd.C_drewN ?_ _) | (with_reducible refine Kd.C_drew ?_))); (case side2 => exact HC0.out); rintro e w8 ⟨rfl, hb⟩; refine ⟨_, rfl, ?_⟩; have n0_ := Aside0.mk (below_step (by repeat (first | (with_reducible first | exact HB.out | apply below_alloc | apply pw_below_drewN | apply below_drew1) | exact HB.out)) hb); clear HB; have HB := n0_; clear n0_; (try clear hb); (try clear hb2); (try clear hk); (try clear hi)))
    go_ret2
    exact ⟨by first | rfl | (simp [errW_none, errW_some] <;> rfl) | (simp [*, errW_none, errW_some] <;> rfl), by repeat (first | (with_reducible first | exact HB.out | apply below_alloc | apply pw_below_drewN | apply below_drew1) | exact HB.out)⟩

def leaf_Pair_99.f (l0 : List S40) : Option (List S40) := if l0.length < 8796093022208 then some l0 else none
theorem leaf_Pair_99.f_some {l0 r : List S40} (h : leaf_Pair_99.f l0 = some r) : l0.length < 8796093022208 ∧ r = l0 := by
  unfold leaf_Pair_99.f at h
  split at h
  · exact ⟨by assumption, (Option.some.inj h).symm⟩
  · cases h
set_option maxHeartbeats 2000000 in
set_option maxRecDepth 100000 in
theorem leaf_Pair_99.calls (A0 : Option Addr) (c0 : Nat) (l0 : List S40) (r : List S40) (w : World) (hr0 : Kd.C k40 w A0 l0.length l0) (hc0 : l0.length ≤ c0) (h : leaf_Pair_99.f l0 = some r) :
    Calls Try.prog 99 #[.slice A0 l0.length c0] w fun e w' => ∃ v0_ : Value, e = .returned v0_ ∧ Kd.R k40 40 w' w.heap.size (fun _ => True) v0_ r ∧ Below w.heap.size w w' := by
  obtain ⟨hl, rfl⟩ := leaf_Pair_99.f_some h
  clear h
  have q : ∀ (w : World) (a : Option Addr) (n c n' c' : Nat), (binOp .eql 34 (.slice a n c) (.slice none n' c')).run Try.prog w = .ok (.bool a.isNone) w := fun w a n c n' c' => Lib.run_eql_slice_nil w _ _ a n c n' c' Try.underlying34
  have hat := Lib.hid (C_at flat40 hr0)
  have hlen := Lib.hid (flatMap_length flat40 r)
  cases A0 with
  | none =>
    have h0 : r = [] := by
      rcases hat.out with h | ⟨b, o, h, _⟩
      · rw [h] at hlen
        have h1 := hlen.out
        exact List.eq_nil_of_length_eq_zero ((Nat.mul_eq_zero.1 h1.symm).resolve_right (by decide))
      · cases h
    subst h0
    clear hat hlen hr0
    go_enter Try.func99, Try.ntmps99
    go_wp2
    go_ret
    exact ⟨_, rfl, Kd.R_nil _ _ _ _ _, Below.refl _ _⟩
  | some ad =>
    obtain ⟨i0, hi, hz0, hz1, hz2⟩ := info_parts info40
    have hnews : Hid (∀ j u, (r.flatMap enc40)[j]? = some u → w.cell? (ad.add j) = some u) := Lib.hid (by
      rcases hat.out with h | ⟨b, o, h, hc⟩
      · rw [h]; intro j u hu; simp at hu
      · obtain rfl := Option.some.inj h
        intro j u hu
        rw [add_lit']
        exact hc j u hu)
    clear hat hr0
    go_enter Try.func99, Try.ntmps99
    go_wp2_with (at_builtin; refine wpList_append_own _ rfl _ _ 34 rfl w.heap.size 40 i0 _ _ _ Try.underlying34 hi hz0 hz1 hz2 rfl (by decide) _ _ _ rfl (World.ownsRow_made w #[] 0 (Nat.le_refl _) (Nat.zero_le _) (by simp)) ad r.length c0 (r.flatMap enc40) rfl ?qc1 ?qc2 ?qc3 ?qc4 ?qc5 ?qc6 ?_)
    case qc1 => exact hlen.out
    case qc2 =>
      intro j u hj
      exact Lib.cell?_alloc_some _ (hnews.out j u hj)
    case qc3 => exact Flat.ones flat40 r
    case qc4 => rw [Nat.zero_add]; simp only [maxLen]; omega
    case qc5 => rw [Nat.zero_add]; omega
    case qc6 => simp
    intro v' w1 hown hgrow hnil
    go_wp2
    go_ret
    refine ⟨v', rfl, (R_iff flat40).2 ⟨fun _ _ => trivial, hown⟩, ?_⟩
    exact ((Below.refl _ w).alloc (Nat.le_refl _) _).grown hgrow (by simp) (by intro k hk; simp [Value.ownBlock] at hk; omega)

end Go.Proofs.Ytkoiffkonjpoiaa.Q
