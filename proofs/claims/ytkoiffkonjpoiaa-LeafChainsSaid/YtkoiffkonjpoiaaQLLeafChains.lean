/- Go functions of the program as plain Lean functions, and for each the contract that the call comes to its answers; written by a turned print of this session. -/
import Derived.Test.YtkoiffkonjpoiaaQ0
import Derived.Test.YtkoiffkonjpoiaaQA1
import Derived.Test.YtkoiffkonjpoiaaQA2
import Derived.Test.YtkoiffkonjpoiaaQA3
import Derived.Test.YtkoiffkonjpoiaaQA4
namespace Go.Proofs.Ytkoiffkonjpoiaa.Q
open Go.RowKit Go.Proofs.YtkoiffkonjpoiaaW.PrintWords Go.Proofs.YtkoiffkonjpoiaaW.PrintLast Go.Proofs.YtkoiffkonjpoiaaW.PrintMore Go.Proofs.YtkoiffkonjpoiaaX
attribute [local go_sem] max2_int min2_int max_two min_two max_three min_three max_four min_four   -- for this text's walks alone
set_option linter.unusedVariables false
set_option linter.unusedSimpArgs false

/-! ### boscagelaw02_LeafChains: function 17 -/
mutual
def boscagelaw02_LeafChains.j0 : Nat → List Int → List (S73) → Bool → Option (Bool)
  | 0, _, _, _ => none
  | k + 1, x0, x1, x18 => if x18 = true then (some true) else ((boscagelaw02_Rising.f k x0).bind fun t666 => (boscagelaw02_LeafChains.l0 k t666 t666 x1 (x1.length : Int) 0))
def boscagelaw02_LeafChains.l0 : Nat → List (S40) → List (S40) → List (S73) → Int → Int → Option (Bool)
  | 0, _, _, _, _, _ => none
  | k + 1, x5, x6, x22, x23, x24 => if x24 < x23 then (if 0 ≤ x24 then (if x24 < (x22.length : Int) then (if (rd_T73 x22 x24).f0 = true then ((leaf_Leaf_Cut.f x5 ((rd_T73 x22 x24).f1)).bind fun bt672 => ((boscagelaw02_Cut.f k x6 ((rd_T73 x22 x24).f1)).bind fun t677 => ((leaf_Leaf_Rises.f k bt672.1).bind fun t680 => (if t680 = true then (boscagelaw02_LeafChains.l0 k bt672.1 t677 x22 x23 (wrap64 (x24 + 1))) else (some false))))) else ((leaf_Leaf_Put.f x5 ((rd_T73 x22 x24).f1) ((rd_T73 x22 x24).f2)).bind fun bt681 => ((boscagelaw02_Put.f k x6 ((rd_T73 x22 x24).f1) ((rd_T73 x22 x24).f2)).bind fun t686 => ((leaf_Leaf_Rises.f k bt681.1).bind fun t689 => (if t689 = true then (boscagelaw02_LeafChains.l0 k bt681.1 t686 x22 x23 (wrap64 (x24 + 1))) else (some false)))))) else (none)) else (none)) else ((boscagelaw02_Same.f k x5 x6).bind fun t669 => (some t669))
end
def boscagelaw02_LeafChains.f (k : Nat) (l0 : List Int) (l1 : List (S73)) : Option (Bool) := (boscagelaw02_Awake.f).bind fun t665 => (if t665 = true then (if (l0.length : Int) > 40 then (boscagelaw02_LeafChains.j0 k l0 l1 true) else (boscagelaw02_LeafChains.j0 k l0 l1 (decide ((l1.length : Int) > 40)))) else (some false))
theorem boscagelaw02_LeafChains.mono_l : ∀ k, (∀ y0 y1 y2, LeO (boscagelaw02_LeafChains.j0 k y0 y1 y2) (boscagelaw02_LeafChains.j0 (k + 1) y0 y1 y2)) ∧ (∀ y0 y1 y2 y3 y4, LeO (boscagelaw02_LeafChains.l0 k y0 y1 y2 y3 y4) (boscagelaw02_LeafChains.l0 (k + 1) y0 y1 y2 y3 y4))
  | 0 => ⟨fun _ _ _ r h => by simp [boscagelaw02_LeafChains.j0] at h, fun _ _ _ _ _ r h => by simp [boscagelaw02_LeafChains.l0] at h⟩
  | k + 1 => by
    obtain ⟨ih0, ih1⟩ := boscagelaw02_LeafChains.mono_l k
    refine ⟨?_, ?_⟩
    · intro y0 y1 y2
      unfold boscagelaw02_LeafChains.j0
      repeat' first
      | (with_reducible exact ih0 _ _ _)
      | (with_reducible exact ih1 _ _ _ _ _)
      | (with_reducible exact boscagelaw02_Cut.mono _ _ _)
      | (with_reducible exact boscagelaw02_Put.mono _ _ _ _)
      | (with_reducible exact boscagelaw02_Rising.mono _ _)
      | (with_reducible exact boscagelaw02_Same.mono _ _ _)
      | (with_reducible exact leaf_Leaf_Rises.mono _ _)
      | (with_reducible exact LeO.refl _)
      | (with_reducible exact LeO.none _)
      | (with_reducible refine LeO.ite ?_ ?_)
      | (with_reducible refine LeO.bind ?_ (fun _ => ?_))
      | exact ih0 _ _ _
      | exact ih1 _ _ _ _ _
      | exact boscagelaw02_Cut.mono _ _ _
      | exact boscagelaw02_Put.mono _ _ _ _
      | exact boscagelaw02_Rising.mono _ _
      | exact boscagelaw02_Same.mono _ _ _
      | exact leaf_Leaf_Rises.mono _ _
      | exact LeO.none _
      | refine LeO.ite ?_ ?_
      | refine LeO.bind ?_ (fun _ => ?_)
    · intro y0 y1 y2 y3 y4
      unfold boscagelaw02_LeafChains.l0
      repeat' first
      | (with_reducible exact ih0 _ _ _)
      | (with_reducible exact ih1 _ _ _ _ _)
      | (with_reducible exact boscagelaw02_Cut.mono _ _ _)
      | (with_reducible exact boscagelaw02_Put.mono _ _ _ _)
      | (with_reducible exact boscagelaw02_Rising.mono _ _)
      | (with_reducible exact boscagelaw02_Same.mono _ _ _)
      | (with_reducible exact leaf_Leaf_Rises.mono _ _)
      | (with_reducible exact LeO.refl _)
      | (with_reducible exact LeO.none _)
      | (with_reducible refine LeO.ite ?_ ?_)
      | (with_reducible refine LeO.bind ?_ (fun _ => ?_))
      | exact ih0 _ _ _
      | exact ih1 _ _ _ _ _
      | exact boscagelaw02_Cut.mono _ _ _
      | exact boscagelaw02_Put.mono _ _ _ _
      | exact boscagelaw02_Rising.mono _ _
      | exact boscagelaw02_Same.mono _ _ _
      | exact leaf_Leaf_Rises.mono _ _
      | exact LeO.none _
      | refine LeO.ite ?_ ?_
      | refine LeO.bind ?_ (fun _ => ?_)
theorem boscagelaw02_LeafChains.mono : ∀ a0 a1 k, LeO (boscagelaw02_LeafChains.f k a0 a1) (boscagelaw02_LeafChains.f (k + 1) a0 a1) := by
  intro a0 a1 k
  obtain ⟨ih0, ih1⟩ := boscagelaw02_LeafChains.mono_l k
  unfold boscagelaw02_LeafChains.f
  repeat' first
      | (with_reducible exact ih0 _ _ _)
      | (with_reducible exact ih1 _ _ _ _ _)
      | (with_reducible exact boscagelaw02_Cut.mono _ _ _)
      | (with_reducible exact boscagelaw02_Put.mono _ _ _ _)
      | (with_reducible exact boscagelaw02_Rising.mono _ _)
      | (with_reducible exact boscagelaw02_Same.mono _ _ _)
      | (with_reducible exact leaf_Leaf_Rises.mono _ _)
      | (with_reducible exact LeO.refl _)
      | (with_reducible exact LeO.none _)
      | (with_reducible refine LeO.ite ?_ ?_)
      | (with_reducible refine LeO.bind ?_ (fun _ => ?_))
      | exact ih0 _ _ _
      | exact ih1 _ _ _ _ _
      | exact boscagelaw02_Cut.mono _ _ _
      | exact boscagelaw02_Put.mono _ _ _ _
      | exact boscagelaw02_Rising.mono _ _
      | exact boscagelaw02_Same.mono _ _ _
      | exact leaf_Leaf_Rises.mono _ _
      | exact LeO.none _
      | refine LeO.ite ?_ ?_
      | refine LeO.bind ?_ (fun _ => ?_)
set_option maxHeartbeats 8000000 in
set_option maxRecDepth 100000 in
theorem boscagelaw02_LeafChains.calls (k : Nat) (A0 : Option Addr) (c0 : Nat) (l0 : List Int) (A1 : Option Addr) (c1 : Nat) (l1 : List (S73)) (r : Bool) (w : World) (hr0 : Kd.C (Kd.int .i64) w A0 l0.length l0) (hc0 : l0.length ≤ c0) (hr1 : Kd.C k73 w A1 l1.length l1) (hc1 : l1.length ≤ c1) (h : boscagelaw02_LeafChains.f k l0 l1 = some r) :
    Calls Try.prog 17 #[.slice A0 l0.length c0, .slice A1 l1.length c1] w fun e w' => e = .returned (.bool r) ∧ Below w.heap.size w w' := by
  have hu73 := Try.underlying73
  have HR0 := Aside0.mk hr0
  have HC0 := Aside0.mk hc0
  clear hr0 hc0
  have HR1 := Aside0.mk hr1
  have HC1 := Aside0.mk hc1
  clear hr1 hc1
  have HB := Aside0.mk (Below.refl w.heap.size w)
  have H : ((boscagelaw02_Awake.f).bind fun t665 => (if t665 = true then (if (l0.length : Int) > 40 then (boscagelaw02_LeafChains.j0 k l0 l1 true) else (boscagelaw02_LeafChains.j0 k l0 l1 (decide ((l1.length : Int) > 40)))) else (some false))) = some r := h
  clear h
  replace H := Option.bind_eq_some_iff.mp H
  obtain ⟨t665, A30, H⟩ := H
  replace H : (if t665 = true then (if (l0.length : Int) > 40 then (boscagelaw02_LeafChains.j0 k l0 l1 true) else (boscagelaw02_LeafChains.j0 k l0 l1 (decide ((l1.length : Int) > 40)))) else (some false)) = some r := H
  have A3 := Aside0.mk A30
  clear A30
  by_cases c4 : t665 = true
  · subst c4
    have H1 : (if (l0.length : Int) > 40 then (boscagelaw02_LeafChains.j0 k l0 l1 true) else (boscagelaw02_LeafChains.j0 k l0 l1 (decide ((l1.length : Int) > 40)))) = some r := by rw [if_pos rfl] at H; exact H
    clear H
    have H := H1
    clear H1
    have HC5 := Aside0.mk H
    clear H
    go_enter Try.func17, Try.ntmps17
    go_upto_region 3 with (first | ((with_reducible refine gate_callee (f := 43) rfl ?_); refine goesL_ (some 9) rfl rfl Try.func43 (by kernel_rfl) rfl #[] rfl (by (try simp only [List.map_toArray, List.map_cons, List.map_nil]); first | done | rfl | (simp only [List.length_drop, List.length_take]; rfl)) ?_; (with_reducible refine (boscagelaw02_Awake.calls  true _ A3.out).mono ?_); rintro e w6 ⟨rfl, hb⟩; refine ⟨_, rfl, ?_⟩; have n0_ := Aside0.mk (below_step (by repeat (first | (with_reducible first | exact HB.out | apply below_alloc | apply pw_below_drewN | apply below_drew1) | exact HB.out)) hb); clear HB; have HB := n0_; clear n0_; (try clear hb); (try clear hb2); (try clear hk); (try clear hi)))
    (try simp only [Act.put, List.setIfInBounds_toArray, List.set_cons_zero, List.set_cons_succ])
    go_cut [18] (fun v18 wc => ∃ (kq : Nat) (x18_4 : Bool), v18 = .bool x18_4 ∧ Aside0 (boscagelaw02_LeafChains.j0 kq l0 l1 x18_4 = some r) ∧ Aside0 (kq ≤ k) ∧ Aside0 (Below w.heap.size w wc))
    case first =>
      have H := HC5.out
      clear HC5
      by_cases c7 : (l0.length : Int) > 40
      · rw [if_pos c7] at H
        have c7b0 : decide (40 < (l0.length : Int)) = true := decide_eq_true c7
        have c7b1 : decide (40 < l0.length) = true := decide_eq_true (by omega)
        clear c7
        (first | rw [c7b0] | (simp only [i64_w, i32_w]; rw [c7b0]) | skip)
        have H' := Aside0.mk H
        clear H
        go_wp2
        go_meet
        case rel => exact ⟨_, (true), (by first | rfl | (simp; done) | (simp [*]; done)), H', ⟨by first | omega | exact Nat.le_refl _⟩, ⟨by repeat (first | (with_reducible first | exact HB.out | apply below_alloc | apply pw_below_drewN | apply below_drew1) | exact HB.out)⟩⟩
      · rw [if_neg c7] at H
        have c7b0 : decide (40 < (l0.length : Int)) = false := decide_eq_false c7
        have c7b1 : decide (40 < l0.length) = false := decide_eq_false (by omega)
        clear c7
        (first | rw [c7b0] | (simp only [i64_w, i32_w]; rw [c7b0]) | skip)
        have H' := Aside0.mk H
        clear H
        go_wp2
        go_meet
        case rel => exact ⟨_, (decide ((l1.length : Int) > 40)), (by first | rfl | (simp; done) | (simp [*]; done)), H', ⟨by first | omega | exact Nat.le_refl _⟩, ⟨by repeat (first | (with_reducible first | exact HB.out | apply below_alloc | apply pw_below_drewN | apply below_drew1) | exact HB.out)⟩⟩
    case rest =>
      clear HC5
      try clear c1
      try clear p2
      try clear c4
      try clear c7
      try clear c7b0
      try clear c7b1
      obtain ⟨kq, x18_4, rfl, HA, HJ4, HB⟩ := hcut
      cases kq with
      | zero => exact absurd HA.out (by simp [boscagelaw02_LeafChains.j0])
      | succ kj4 =>
        have H := HA.out
        clear HA
        simp only [boscagelaw02_LeafChains.j0] at H
        by_cases c8 : x18_4 = true
        · subst c8
          have H1 : (some true) = some r := by rw [if_pos rfl] at H; exact H
          clear H
          have H := H1
          clear H1
          obtain rfl := Option.some.inj H
          go_wp2
          go_ret
          exact ⟨by first | rfl | (simp [errW_none, errW_some] <;> rfl) | (simp [*, errW_none, errW_some] <;> rfl), by repeat (first | (with_reducible first | exact HB.out | apply below_alloc | apply pw_below_drewN | apply below_drew1) | exact HB.out)⟩
        · replace c8 := Bool.eq_false_iff.mpr c8
          subst c8
          have H1 : ((boscagelaw02_Rising.f kj4 l0).bind fun t666 => (boscagelaw02_LeafChains.l0 kj4 t666 t666 l1 (l1.length : Int) 0)) = some r := by rw [if_neg (show ¬ (false = true) by decide)] at H; exact H
          clear H
          have H := H1
          clear H1
          replace H := Option.bind_eq_some_iff.mp H
          obtain ⟨t666, A90, H⟩ := H
          replace H : (boscagelaw02_LeafChains.l0 kj4 t666 t666 l1 (l1.length : Int) 0) = some r := H
          have A9 := Aside0.mk A90
          clear A90
          have H' := Aside0.mk H
          clear H
          go_wp2_with (first | ((with_reducible refine gate_callee (f := 44) rfl ?_); refine goesL_ (some 20) rfl rfl Try.func44 (by kernel_rfl) rfl #[.slice A0 l0.length c0] rfl (by (try simp only [List.map_toArray, List.map_cons, List.map_nil]); first | done | rfl | (simp only [List.length_drop, List.length_take]; rfl)) ?_; (with_reducible refine (boscagelaw02_Rising.calls kj4 _ _ l0 t666 _ ?side1 ?side2 A9.out).mono ?_); (case side1 => repeat (first | exact (Kd.C_below HR0.out HB.out) | (with_reducible refine Kd.C_alloc ?_ _) | (with_reducible refine Kd.C_drewN ?_ _) | (with_reducible refine Kd.C_drew ?_))); (case side2 => exact HC0.out); rintro e w10 ⟨v667, rfl, ho0, hb⟩; refine ⟨_, rfl, ?_⟩; have n0_ := Aside0.mk (Kd.R_lower ho0 (below_size (by repeat (first | (with_reducible first | exact HB.out | apply below_alloc | apply pw_below_drewN | apply below_drew1) | exact HB.out)))); have n1_ := Aside0.mk (below_step (by repeat (first | (with_reducible first | exact HB.out | apply below_alloc | apply pw_below_drewN | apply below_drew1) | exact HB.out)) hb); clear HB; have HO668 := n0_; have HB := n1_; clear n0_ n1_; (try clear hb); (try clear hb2); (try clear hk); (try clear hi); (try clear ho0)))
          go_loopg [5, 6, 24] kj4 (fun kq v5 v6 v24 w' => ∃ (x5_2 : List (S40)) (x6_2 : List (S40)) (x24_2 : Int), v24 = .int .i64 x24_2 ∧ Aside0 (boscagelaw02_LeafChains.l0 kq x5_2 x6_2 l1 (l1.length : Int) x24_2 = some r) ∧ Aside0 (kq ≤ kj4) ∧ Aside0 (Kd.R k40 40 w' w.heap.size (fun _ => True) v5 x5_2) ∧ Aside0 (Kd.R k40 40 w' w.heap.size (fun _ => True) v6 x6_2) ∧ Aside0 (Below w.heap.size w w'))
          case atStart => exact ⟨(t666), (t666), (0), (by first | rfl | (simp; done) | (simp [*]; done)), H', ⟨Nat.le_refl _⟩, ⟨by (with_reducible repeat (first | apply Kd.R_alloc | apply Kd.R_drewN | apply Kd.R_drew)); exact HO668.out⟩, ⟨by (with_reducible repeat (first | apply Kd.R_alloc | apply Kd.R_drewN | apply Kd.R_drew)); exact HO668.out⟩, ⟨by repeat (first | (with_reducible first | exact HB.out | apply below_alloc | apply pw_below_drewN | apply below_drew1) | exact HB.out)⟩⟩
          case round =>
            clear H'
            try clear c1
            try clear p2
            try clear c4
            try clear c7
            try clear c7b0
            try clear c7b1
            try clear c8
            try clear p2
            obtain ⟨x5_2, x6_2, x24_2, rfl, HA, HK2, HO_5, HO_6, HB⟩ := hrel
            cases gk with
            | zero => exact absurd HA.out (by simp [boscagelaw02_LeafChains.l0])
            | succ k2 =>
              have H := HA.out
              clear HA
              simp only [boscagelaw02_LeafChains.l0] at H
              by_cases c11 : x24_2 < (l1.length : Int)
              · rw [if_pos c11] at H
                have c11b0 : decide (x24_2 < (l1.length : Int)) = true := decide_eq_true c11
                clear c11
                by_cases c12 : 0 ≤ x24_2
                · rw [if_pos c12] at H
                  have c12b0 : decide (0 ≤ x24_2) = true := decide_eq_true c12
                  clear c12
                  by_cases c13 : x24_2 < (l1.length : Int)
                  · rw [if_pos c13] at H
                    have c13b0 : decide (x24_2 < (l1.length : Int)) = true := decide_eq_true c13
                    clear c13
                    obtain ⟨bq14, hbq14⟩ : ∃ b_ : Bool, b_ = ((rd_T73 l1 x24_2).f0) := ⟨_, rfl⟩
                    replace H : (if bq14 = true then ((leaf_Leaf_Cut.f x5_2 ((rd_T73 l1 x24_2).f1)).bind fun bt672 => ((boscagelaw02_Cut.f k2 x6_2 ((rd_T73 l1 x24_2).f1)).bind fun t677 => ((leaf_Leaf_Rises.f k2 bt672.1).bind fun t680 => (if t680 = true then (boscagelaw02_LeafChains.l0 k2 bt672.1 t677 l1 (l1.length : Int) (wrap64 (x24_2 + 1))) else (some false))))) else ((leaf_Leaf_Put.f x5_2 ((rd_T73 l1 x24_2).f1) ((rd_T73 l1 x24_2).f2)).bind fun bt681 => ((boscagelaw02_Put.f k2 x6_2 ((rd_T73 l1 x24_2).f1) ((rd_T73 l1 x24_2).f2)).bind fun t686 => ((leaf_Leaf_Rises.f k2 bt681.1).bind fun t689 => (if t689 = true then (boscagelaw02_LeafChains.l0 k2 bt681.1 t686 l1 (l1.length : Int) (wrap64 (x24_2 + 1))) else (some false)))))) = some r := by rw [← hbq14] at H; exact H
                    have Nbq14 := Aside0.mk hbq14
                    clear hbq14
                    by_cases c15 : bq14 = true
                    · subst c15
                      have H1 : ((leaf_Leaf_Cut.f x5_2 ((rd_T73 l1 x24_2).f1)).bind fun bt672 => ((boscagelaw02_Cut.f k2 x6_2 ((rd_T73 l1 x24_2).f1)).bind fun t677 => ((leaf_Leaf_Rises.f k2 bt672.1).bind fun t680 => (if t680 = true then (boscagelaw02_LeafChains.l0 k2 bt672.1 t677 l1 (l1.length : Int) (wrap64 (x24_2 + 1))) else (some false))))) = some r := by rw [if_pos rfl] at H; exact H
                      clear H
                      have H := H1
                      clear H1
                      replace H := Option.bind_eq_some_iff.mp H
                      obtain ⟨⟨t672, t673, t674⟩, A160, H⟩ := H
                      replace H : ((boscagelaw02_Cut.f k2 x6_2 ((rd_T73 l1 x24_2).f1)).bind fun t677 => ((leaf_Leaf_Rises.f k2 t672).bind fun t680 => (if t680 = true then (boscagelaw02_LeafChains.l0 k2 t672 t677 l1 (l1.length : Int) (wrap64 (x24_2 + 1))) else (some false)))) = some r := H
                      have A16 := Aside0.mk A160
                      clear A160
                      replace H := Option.bind_eq_some_iff.mp H
                      obtain ⟨t677, A170, H⟩ := H
                      replace H : ((leaf_Leaf_Rises.f k2 t672).bind fun t680 => (if t680 = true then (boscagelaw02_LeafChains.l0 k2 t672 t677 l1 (l1.length : Int) (wrap64 (x24_2 + 1))) else (some false))) = some r := H
                      have A17 := Aside0.mk A170
                      clear A170
                      replace H := Option.bind_eq_some_iff.mp H
                      obtain ⟨t680, A180, H⟩ := H
                      replace H : (if t680 = true then (boscagelaw02_LeafChains.l0 k2 t672 t677 l1 (l1.length : Int) (wrap64 (x24_2 + 1))) else (some false)) = some r := H
                      have A18 := Aside0.mk A180
                      clear A180
                      by_cases c19 : t680 = true
                      · subst c19
                        have H1 : (boscagelaw02_LeafChains.l0 k2 t672 t677 l1 (l1.length : Int) (wrap64 (x24_2 + 1))) = some r := by rw [if_pos rfl] at H; exact H
                        clear H
                        have H := H1
                        clear H1
                        have H' := Aside0.mk H
                        clear H
                        have p670 : 0 ≤ (x24_2 : Int) := of_decide_eq_true (by first | (with_reducible assumption) | assumption)
                        have q670 : x24_2 < (l1.length : Int) := of_decide_eq_true (by first | (with_reducible assumption) | assumption)
                        obtain ⟨ad670, e670, hx670_0, hx670_1, hx670_2⟩ := at_T73 HR1.out x24_2 p670 q670
                        (try rw [← Nbq14.out] at hx670_0)
                        cases e670
                        replace hx670_0 := (HB.out.cell (World.block_lt_of_cell? w _ hx670_0)).trans hx670_0
                        replace hx670_1 := (HB.out.cell (World.block_lt_of_cell? w _ hx670_1)).trans hx670_1
                        replace hx670_2 := (HB.out.cell (World.block_lt_of_cell? w _ hx670_2)).trans hx670_2
                        replace p670 := eq_true p670
                        replace q670 := eq_true q670
                        go_wp2_with (first | ((with_reducible refine gate_dst (N := 8) rfl ?_); (try (refine gate_guard (by rfl) ?_; dsimp only)); refine box_event ?hg (N := 8) ?hd (cs := #[.bool false, .int .i64 0, .int .i64 0]) (t := 73) ?hr ?_; (case hd => rfl); (case hg => rfl); (case hr => first | (go_simp; done) | (go_simp; rfl)); intro gb671 hg w20 hbox hb; have n0_ := Aside0.mk (Kd.R_below (by (with_reducible repeat (first | apply Kd.R_alloc | apply Kd.R_drewN | apply Kd.R_drew)); exact HO_5.out) hb); have n1_ := Aside0.mk (Kd.R_below (by (with_reducible repeat (first | apply Kd.R_alloc | apply Kd.R_drewN | apply Kd.R_drew)); exact HO_6.out) hb); have n2_ := Aside0.mk (below_step (by repeat (first | (with_reducible first | exact HB.out | apply below_alloc | apply pw_below_drewN | apply below_drew1) | exact HB.out)) hb); have n3_ := Aside0.mk (hbox); have n4_ := Aside0.mk ((by rw [hg]; exact (below_size (by repeat (first | (with_reducible first | exact HB.out | apply below_alloc | apply pw_below_drewN | apply below_drew1) | exact HB.out))) : w.heap.size ≤ gb671)); have n5_ := Aside0.mk ((by rw [hg]; exact (below_size (by repeat (first | (with_reducible first | exact HB.out | apply below_alloc | apply pw_below_drewN | apply below_drew1) | exact HB.out))) : w.heap.size ≤ gb671)); clear HO_5; clear HO_6; clear HB; have HO_5 := n0_; have HO_6 := n1_; have HB := n2_; have BK671 := n3_; have GW671 := n4_; have GE671 := n5_; clear n0_ n1_ n2_ n3_ n4_ n5_; clear hb hbox hg; have hcz21_0 : w20.cell? ⟨gb671, 0, none⟩ = some (.bool false) := (blk_cell BK671.out 0).trans rfl; have hcz21_1 : w20.cell? ⟨gb671, 1, none⟩ = some (.int .i64 0) := (blk_cell BK671.out 1).trans rfl; have hcz21_2 : w20.cell? ⟨gb671, 2, none⟩ = some (.int .i64 0) := (blk_cell BK671.out 2).trans rfl; have hfz21_0 := blk_frozen BK671.out 0; have hfz21_1 := blk_frozen BK671.out 1; have hfz21_2 := blk_frozen BK671.out 2; obtain ⟨Ao22, co22, eo22⟩ := Kd.R_slice HO_5.out; subst eo22) | ((with_reducible refine gate_callee (f := 66) rfl ?_); refine goesL_ (some 34) rfl rfl Try.func66 (by kernel_rfl) rfl #[.slice Ao22 x5_2.length co22, .int .i64 ((rd_T73 l1 x24_2).f1)] rfl (by (try simp only [List.map_toArray, List.map_cons, List.map_nil]); first | done | rfl | (simp only [List.length_drop, List.length_take]; rfl)) ?_; (with_reducible refine (leaf_Leaf_Cut.calls _ _ x5_2 ((rd_T73 l1 x24_2).f1) t672 t673 t674 _ ?side1 ?side2 A16.out).mono ?_); (case side1 => refine (Kd.R_reads' (e := 40) (base := w.heap.size) (ok := fun k_ => True) (n := x5_2.length) (c := co22) ?_).2.2; exact (by (with_reducible repeat (first | apply Kd.R_alloc | apply Kd.R_drewN | apply Kd.R_drew)); exact (Kd.R_mono (Kd.R_far (p := ⟨gb671, 2, none⟩) (Kd.R_far (p := ⟨gb671, 1, none⟩) (Kd.R_far (p := ⟨gb671, 0, none⟩) (Kd.R_types HO_5.out BK671.out (by decide)) (fun _ hk => hk.2) (.bool true)) (fun _ hk => hk.2) (.int .i64 ((rd_T73 l1 x24_2).f1))) (fun _ hk => hk.2) (.int .i64 ((rd_T73 l1 x24_2).f2))) (fun _ h_ => h_.1)))); (case side2 => exact (Kd.R_reads' HO_5.out).2.1); rintro e w23 ⟨v675, rfl, ho0, hb⟩; refine ⟨_, rfl, ?_⟩; have n0_ := Aside0.mk (Kd.R_elder' (by (with_reducible repeat (first | apply Kd.R_alloc | apply Kd.R_drewN | apply Kd.R_drew)); exact (Kd.R_mono (Kd.R_far (p := ⟨gb671, 2, none⟩) (Kd.R_far (p := ⟨gb671, 1, none⟩) (Kd.R_far (p := ⟨gb671, 0, none⟩) (Kd.R_types HO_5.out BK671.out (by decide)) (fun _ hk => hk.2) (.bool true)) (fun _ hk => hk.2) (.int .i64 ((rd_T73 l1 x24_2).f1))) (fun _ hk => hk.2) (.int .i64 ((rd_T73 l1 x24_2).f2))) (fun _ h_ => h_.1))) (Kd.R_base ho0) hb); have n1_ := Aside0.mk (Kd.R_elder' (by (with_reducible repeat (first | apply Kd.R_alloc | apply Kd.R_drewN | apply Kd.R_drew)); exact (Kd.R_mono (Kd.R_far (p := ⟨gb671, 2, none⟩) (Kd.R_far (p := ⟨gb671, 1, none⟩) (Kd.R_far (p := ⟨gb671, 0, none⟩) (Kd.R_types HO_6.out BK671.out (by decide)) (fun _ hk => hk.2) (.bool true)) (fun _ hk => hk.2) (.int .i64 ((rd_T73 l1 x24_2).f1))) (fun _ hk => hk.2) (.int .i64 ((rd_T73 l1 x24_2).f2))) (fun _ h_ => h_.1))) (Kd.R_base ho0) hb); have n2_ := Aside0.mk (Kd.R_lower (Kd.R_new' (Kd.R_new' ho0 (Kd.R_lt (by (with_reducible repeat (first | apply Kd.R_alloc | apply Kd.R_drewN | apply Kd.R_drew)); exact (Kd.R_mono (Kd.R_far (p := ⟨gb671, 2, none⟩) (Kd.R_far (p := ⟨gb671, 1, none⟩) (Kd.R_far (p := ⟨gb671, 0, none⟩) (Kd.R_types HO_5.out BK671.out (by decide)) (fun _ hk => hk.2) (.bool true)) (fun _ hk => hk.2) (.int .i64 ((rd_T73 l1 x24_2).f1))) (fun _ hk => hk.2) (.int .i64 ((rd_T73 l1 x24_2).f2))) (fun _ h_ => h_.1))))) (Kd.R_lt (by (with_reducible repeat (first | apply Kd.R_alloc | apply Kd.R_drewN | apply Kd.R_drew)); exact (Kd.R_mono (Kd.R_far (p := ⟨gb671, 2, none⟩) (Kd.R_far (p := ⟨gb671, 1, none⟩) (Kd.R_far (p := ⟨gb671, 0, none⟩) (Kd.R_types HO_6.out BK671.out (by decide)) (fun _ hk => hk.2) (.bool true)) (fun _ hk => hk.2) (.int .i64 ((rd_T73 l1 x24_2).f1))) (fun _ hk => hk.2) (.int .i64 ((rd_T73 l1 x24_2).f2))) (fun _ h_ => h_.1))))) (below_size (by repeat (first | (with_reducible first | exact HB.out | apply below_alloc | apply pw_below_drewN | apply below_drew1 | refine below_set ?_ GE671.out) | exact HB.out)))); have n3_ := Aside0.mk (blk_below (g := gb671) (o := .cells #[.bool true, .int .i64 ((rd_T73 l1 x24_2).f1), .int .i64 ((rd_T73 l1 x24_2).f2)] 73 (0, 0)) (by (with_reducible repeat (first | refine blk_drewN ?_ _ | refine blk_drew ?_ | refine blk_alloc ?_ _)); refine blk_put (cs := #[.bool true, .int .i64 ((rd_T73 l1 x24_2).f1), .int .i64 0]) ?_ 2 _ rfl; (with_reducible repeat (first | refine blk_drewN ?_ _ | refine blk_drew ?_ | refine blk_alloc ?_ _)); refine blk_put (cs := #[.bool true, .int .i64 0, .int .i64 0]) ?_ 1 _ rfl; (with_reducible repeat (first | refine blk_drewN ?_ _ | refine blk_drew ?_ | refine blk_alloc ?_ _)); refine blk_put (cs := #[.bool false, .int .i64 0, .int .i64 0]) ?_ 0 _ rfl; (with_reducible repeat (first | refine blk_drewN ?_ _ | refine blk_drew ?_ | refine blk_alloc ?_ _)); exact BK671.out) hb); have n4_ := Aside0.mk (below_step (by repeat (first | (with_reducible first | exact HB.out | apply below_alloc | apply pw_below_drewN | apply below_drew1 | refine below_set ?_ GE671.out) | exact HB.out)) hb); clear HO_5; clear HO_6; clear BK671; clear HB; have HO_5 := n0_; have HO_6 := n1_; have HO676 := n2_; have BK671 := n3_; have HB := n4_; clear n0_ n1_ n2_ n3_ n4_; (try clear hb); (try clear hb2); (try clear hk); (try clear hi); (try clear ho0); have hcz24_0 : w23.cell? ⟨gb671, 0, none⟩ = some (.bool true) := (blk_cell BK671.out 0).trans rfl; have hcz24_1 : w23.cell? ⟨gb671, 1, none⟩ = some (.int .i64 ((rd_T73 l1 x24_2).f1)) := (blk_cell BK671.out 1).trans rfl; have hcz24_2 : w23.cell? ⟨gb671, 2, none⟩ = some (.int .i64 ((rd_T73 l1 x24_2).f2)) := (blk_cell BK671.out 2).trans rfl; have hfz24_0 := blk_frozen BK671.out 0; have hfz24_1 := blk_frozen BK671.out 1; have hfz24_2 := blk_frozen BK671.out 2; obtain ⟨Ao25, co25, eo25⟩ := Kd.R_slice HO_6.out; subst eo25) | ((with_reducible refine gate_callee (f := 67) rfl ?_); refine goesL_ (some 41) rfl rfl Try.func67 (by kernel_rfl) rfl #[.slice Ao25 x6_2.length co25, .int .i64 ((rd_T73 l1 x24_2).f1)] rfl (by (try simp only [List.map_toArray, List.map_cons, List.map_nil]); first | done | rfl | (simp only [List.length_drop, List.length_take]; rfl)) ?_; (with_reducible refine (boscagelaw02_Cut.calls k2 _ _ x6_2 ((rd_T73 l1 x24_2).f1) t677 _ ?side1 ?side2 A17.out).mono ?_); (case side1 => repeat (first | exact (Kd.R_reads' HO_6.out).2.2 | (with_reducible refine Kd.C_alloc ?_ _) | (with_reducible refine Kd.C_drewN ?_ _) | (with_reducible refine Kd.C_drew ?_))); (case side2 => exact (Kd.R_reads' HO_6.out).2.1); rintro e w26 ⟨v678, rfl, ho0, hb⟩; refine ⟨_, rfl, ?_⟩; have n0_ := Aside0.mk (Kd.R_elder' (by (with_reducible repeat (first | apply Kd.R_alloc | apply Kd.R_drewN | apply Kd.R_drew)); exact HO_5.out) (Kd.R_base ho0) hb); have n1_ := Aside0.mk (Kd.R_elder' (by (with_reducible repeat (first | apply Kd.R_alloc | apply Kd.R_drewN | apply Kd.R_drew)); exact HO_6.out) (Kd.R_base ho0) hb); have n2_ := Aside0.mk (Kd.R_elder' (by (with_reducible repeat (first | apply Kd.R_alloc | apply Kd.R_drewN | apply Kd.R_drew)); exact HO676.out) (Kd.R_base ho0) hb); have n3_ := Aside0.mk (Kd.R_lower (Kd.R_new' (Kd.R_new' (Kd.R_new' ho0 (Kd.R_lt (by (with_reducible repeat (first | apply Kd.R_alloc | apply Kd.R_drewN | apply Kd.R_drew)); exact HO_5.out))) (Kd.R_lt (by (with_reducible repeat (first | apply Kd.R_alloc | apply Kd.R_drewN | apply Kd.R_drew)); exact HO_6.out))) (Kd.R_lt (by (with_reducible repeat (first | apply Kd.R_alloc | apply Kd.R_drewN | apply Kd.R_drew)); exact HO676.out))) (below_size (by repeat (first | (with_reducible first | exact HB.out | apply below_alloc | apply pw_below_drewN | apply below_drew1 | refine below_set ?_ GE671.out) | exact HB.out)))); have n4_ := Aside0.mk (blk_below (g := gb671) (o := .cells #[.bool true, .int .i64 ((rd_T73 l1 x24_2).f1), .int .i64 ((rd_T73 l1 x24_2).f2)] 73 (0, 0)) (by (with_reducible repeat (first | refine blk_drewN ?_ _ | refine blk_drew ?_ | refine blk_alloc ?_ _)); exact BK671.out) hb); have n5_ := Aside0.mk (below_step (by repeat (first | (with_reducible first | exact HB.out | apply below_alloc | apply pw_below_drewN | apply below_drew1 | refine below_set ?_ GE671.out) | exact HB.out)) hb); clear HO_5; clear HO_6; clear HO676; clear BK671; clear HB; have HO_5 := n0_; have HO_6 := n1_; have HO676 := n2_; have HO679 := n3_; have BK671 := n4_; have HB := n5_; clear n0_ n1_ n2_ n3_ n4_ n5_; (try clear hb); (try clear hb2); (try clear hk); (try clear hi); (try clear ho0); obtain ⟨Ao27, co27, eo27⟩ := Kd.R_slice HO676.out; subst eo27) | ((with_reducible refine gate_callee (f := 61) rfl ?_); refine goesL_ (some 59) rfl rfl Try.func61 (by kernel_rfl) rfl #[.slice Ao27 t672.length co27] rfl (by (try simp only [List.map_toArray, List.map_cons, List.map_nil]); first | done | rfl | (simp only [List.length_drop, List.length_take]; rfl)) ?_; (with_reducible refine (leaf_Leaf_Rises.calls k2 _ _ t672 true _ ?side1 ?side2 A18.out).mono ?_); (case side1 => repeat (first | exact (Kd.R_reads' HO676.out).2.2 | (with_reducible refine Kd.C_alloc ?_ _) | (with_reducible refine Kd.C_drewN ?_ _) | (with_reducible refine Kd.C_drew ?_))); (case side2 => exact (Kd.R_reads' HO676.out).2.1); rintro e w' ⟨rfl, ⟨nd, rfl⟩⟩; refine ⟨_, rfl, ?_⟩))
                        go_roundg k2
                        case measure => have := HJ4.out; have := HK2.out; omega
                        case rel => exact ⟨(t672), (t677), (wrap64 (x24_2 + 1)), (by first | rfl | (simp; done) | (simp [*]; done)), H', ⟨by have := HJ4.out; have := HK2.out; omega⟩, ⟨by (with_reducible repeat (first | apply Kd.R_alloc | apply Kd.R_drewN | apply Kd.R_drew)); exact Kd.R_mono HO676.out (fun _ _ => trivial)⟩, ⟨by (with_reducible repeat (first | apply Kd.R_alloc | apply Kd.R_drewN | apply Kd.R_drew)); exact Kd.R_mono HO679.out (fun _ _ => trivial)⟩, ⟨by repeat (first | (with_reducible first | exact HB.out | apply below_alloc | apply pw_below_drewN | apply below_drew1 | refine below_set ?_ GE671.out) | exact HB.out)⟩⟩
                      · replace c19 := Bool.eq_false_iff.mpr c19
                        subst c19
                        have H1 : (some false) = some r := by rw [if_neg (show ¬ (false = true) by decide)] at H; exact H
                        clear H
                        have H := H1
                        clear H1
                        obtain rfl := Option.some.inj H
                        have p670 : 0 ≤ (x24_2 : Int) := of_decide_eq_true (by first | (with_reducible assumption) | assumption)
                        have q670 : x24_2 < (l1.length : Int) := of_decide_eq_true (by first | (with_reducible assumption) | assumption)
                        obtain ⟨ad670, e670, hx670_0, hx670_1, hx670_2⟩ := at_T73 HR1.out x24_2 p670 q670
                        (try rw [← Nbq14.out] at hx670_0)
                        cases e670
                        replace hx670_0 := (HB.out.cell (World.block_lt_of_cell? w _ hx670_0)).trans hx670_0
                        replace hx670_1 := (HB.out.cell (World.block_lt_of_cell? w _ hx670_1)).trans hx670_1
                        replace hx670_2 := (HB.out.cell (World.block_lt_of_cell? w _ hx670_2)).trans hx670_2
                        replace p670 := eq_true p670
                        replace q670 := eq_true q670
                        go_wp2_with (first | ((with_reducible refine gate_dst (N := 8) rfl ?_); (try (refine gate_guard (by rfl) ?_; dsimp only)); refine box_event ?hg (N := 8) ?hd (cs := #[.bool false, .int .i64 0, .int .i64 0]) (t := 73) ?hr ?_; (case hd => rfl); (case hg => rfl); (case hr => first | (go_simp; done) | (go_simp; rfl)); intro gb671 hg w28 hbox hb; have n0_ := Aside0.mk (Kd.R_below (by (with_reducible repeat (first | apply Kd.R_alloc | apply Kd.R_drewN | apply Kd.R_drew)); exact HO_5.out) hb); have n1_ := Aside0.mk (Kd.R_below (by (with_reducible repeat (first | apply Kd.R_alloc | apply Kd.R_drewN | apply Kd.R_drew)); exact HO_6.out) hb); have n2_ := Aside0.mk (below_step (by repeat (first | (with_reducible first | exact HB.out | apply below_alloc | apply pw_below_drewN | apply below_drew1) | exact HB.out)) hb); have n3_ := Aside0.mk (hbox); have n4_ := Aside0.mk ((by rw [hg]; exact (below_size (by repeat (first | (with_reducible first | exact HB.out | apply below_alloc | apply pw_below_drewN | apply below_drew1) | exact HB.out))) : w.heap.size ≤ gb671)); have n5_ := Aside0.mk ((by rw [hg]; exact (below_size (by repeat (first | (with_reducible first | exact HB.out | apply below_alloc | apply pw_below_drewN | apply below_drew1) | exact HB.out))) : w.heap.size ≤ gb671)); clear HO_5; clear HO_6; clear HB; have HO_5 := n0_; have HO_6 := n1_; have HB := n2_; have BK671 := n3_; have GW671 := n4_; have GE671 := n5_; clear n0_ n1_ n2_ n3_ n4_ n5_; clear hb hbox hg; have hcz29_0 : w28.cell? ⟨gb671, 0, none⟩ = some (.bool false) := (blk_cell BK671.out 0).trans rfl; have hcz29_1 : w28.cell? ⟨gb671, 1, none⟩ = some (.int .i64 0) := (blk_cell BK671.out 1).trans rfl; have hcz29_2 : w28.cell? ⟨gb671, 2, none⟩ = some (.int .i64 0) := (blk_cell BK671.out 2).trans rfl; have hfz29_0 := blk_frozen BK671.out 0; have hfz29_1 := blk_frozen BK671.out 1; have hfz29_2 := blk_frozen BK671.out 2; obtain ⟨Ao30, co30, eo30⟩ := Kd.R_slice HO_5.out; subst eo30) | ((with_reducible refine gate_callee (f := 66) rfl ?_); refine goesL_ (some 34) rfl rfl Try.func66 (by kernel_rfl) rfl #[.slice Ao30 x5_2.length co30, .int .i64 ((rd_T73 l1 x24_2).f1)] rfl (by (try simp only [List.map_toArray, List.map_cons, List.map_nil]); first | done | rfl | (simp only [List.length_drop, List.length_take]; rfl)) ?_; (with_reducible refine (leaf_Leaf_Cut.calls _ _ x5_2 ((rd_T73 l1 x24_2).f1) t672 t673 t674 _ ?side1 ?side2 A16.out).mono ?_); (case side1 => refine (Kd.R_reads' (e := 40) (base := w.heap.size) (ok := fun k_ => True) (n := x5_2.length) (c := co30) ?_).2.2; exact (by (with_reducible repeat (first | apply Kd.R_alloc | apply Kd.R_drewN | apply Kd.R_drew)); exact (Kd.R_mono (Kd.R_far (p := ⟨gb671, 2, none⟩) (Kd.R_far (p := ⟨gb671, 1, none⟩) (Kd.R_far (p := ⟨gb671, 0, none⟩) (Kd.R_types HO_5.out BK671.out (by decide)) (fun _ hk => hk.2) (.bool true)) (fun _ hk => hk.2) (.int .i64 ((rd_T73 l1 x24_2).f1))) (fun _ hk => hk.2) (.int .i64 ((rd_T73 l1 x24_2).f2))) (fun _ h_ => h_.1)))); (case side2 => exact (Kd.R_reads' HO_5.out).2.1); rintro e w31 ⟨v675, rfl, ho0, hb⟩; refine ⟨_, rfl, ?_⟩; have n0_ := Aside0.mk (Kd.R_elder' (by (with_reducible repeat (first | apply Kd.R_alloc | apply Kd.R_drewN | apply Kd.R_drew)); exact (Kd.R_mono (Kd.R_far (p := ⟨gb671, 2, none⟩) (Kd.R_far (p := ⟨gb671, 1, none⟩) (Kd.R_far (p := ⟨gb671, 0, none⟩) (Kd.R_types HO_5.out BK671.out (by decide)) (fun _ hk => hk.2) (.bool true)) (fun _ hk => hk.2) (.int .i64 ((rd_T73 l1 x24_2).f1))) (fun _ hk => hk.2) (.int .i64 ((rd_T73 l1 x24_2).f2))) (fun _ h_ => h_.1))) (Kd.R_base ho0) hb); have n1_ := Aside0.mk (Kd.R_elder' (by (with_reducible repeat (first | apply Kd.R_alloc | apply Kd.R_drewN | apply Kd.R_drew)); exact (Kd.R_mono (Kd.R_far (p := ⟨gb671, 2, none⟩) (Kd.R_far (p := ⟨gb671, 1, none⟩) (Kd.R_far (p := ⟨gb671, 0, none⟩) (Kd.R_types HO_6.out BK671.out (by decide)) (fun _ hk => hk.2) (.bool true)) (fun _ hk => hk.2) (.int .i64 ((rd_T73 l1 x24_2).f1))) (fun _ hk => hk.2) (.int .i64 ((rd_T73 l1 x24_2).f2))) (fun _ h_ => h_.1))) (Kd.R_base ho0) hb); have n2_ := Aside0.mk (Kd.R_lower (Kd.R_new' (Kd.R_new' ho0 (Kd.R_lt (by (with_reducible repeat (first | apply Kd.R_alloc | apply Kd.R_drewN | apply Kd.R_drew)); exact (Kd.R_mono (Kd.R_far (p := ⟨gb671, 2, none⟩) (Kd.R_far (p := ⟨gb671, 1, none⟩) (Kd.R_far (p := ⟨gb671, 0, none⟩) (Kd.R_types HO_5.out BK671.out (by decide)) (fun _ hk => hk.2) (.bool true)) (fun _ hk => hk.2) (.int .i64 ((rd_T73 l1 x24_2).f1))) (fun _ hk => hk.2) (.int .i64 ((rd_T73 l1 x24_2).f2))) (fun _ h_ => h_.1))))) (Kd.R_lt (by (with_reducible repeat (first | apply Kd.R_alloc | apply Kd.R_drewN | apply Kd.R_drew)); exact (Kd.R_mono (Kd.R_far (p := ⟨gb671, 2, none⟩) (Kd.R_far (p := ⟨gb671, 1, none⟩) (Kd.R_far (p := ⟨gb671, 0, none⟩) (Kd.R_types HO_6.out BK671.out (by decide)) (fun _ hk => hk.2) (.bool true)) (fun _ hk => hk.2) (.int .i64 ((rd_T73 l1 x24_2).f1))) (fun _ hk => hk.2) (.int .i64 ((rd_T73 l1 x24_2).f2))) (fun _ h_ => h_.1))))) (below_size (by repeat (first | (with_reducible first | exact HB.out | apply below_alloc | apply pw_below_drewN | apply below_drew1 | refine below_set ?_ GE671.out) | exact HB.out)))); have n3_ := Aside0.mk (blk_below (g := gb671) (o := .cells #[.bool true, .int .i64 ((rd_T73 l1 x24_2).f1), .int .i64 ((rd_T73 l1 x24_2).f2)] 73 (0, 0)) (by (with_reducible repeat (first | refine blk_drewN ?_ _ | refine blk_drew ?_ | refine blk_alloc ?_ _)); refine blk_put (cs := #[.bool true, .int .i64 ((rd_T73 l1 x24_2).f1), .int .i64 0]) ?_ 2 _ rfl; (with_reducible repeat (first | refine blk_drewN ?_ _ | refine blk_drew ?_ | refine blk_alloc ?_ _)); refine blk_put (cs := #[.bool true, .int .i64 0, .int .i64 0]) ?_ 1 _ rfl; (with_reducible repeat (first | refine blk_drewN ?_ _ | refine blk_drew ?_ | refine blk_alloc ?_ _)); refine blk_put (cs := #[.bool false, .int .i64 0, .int .i64 0]) ?_ 0 _ rfl; (with_reducible repeat (first | refine blk_drewN ?_ _ | refine blk_drew ?_ | refine blk_alloc ?_ _)); exact BK671.out) hb); have n4_ := Aside0.mk (below_step (by repeat (first | (with_reducible first | exact HB.out | apply below_alloc | apply pw_below_drewN | apply below_drew1 | refine below_set ?_ GE671.out) | exact HB.out)) hb); clear HO_5; clear HO_6; clear BK671; clear HB; have HO_5 := n0_; have HO_6 := n1_; have HO676 := n2_; have BK671 := n3_; have HB := n4_; clear n0_ n1_ n2_ n3_ n4_; (try clear hb); (try clear hb2); (try clear hk); (try clear hi); (try clear ho0); have hcz32_0 : w31.cell? ⟨gb671, 0, none⟩ = some (.bool true) := (blk_cell BK671.out 0).trans rfl; have hcz32_1 : w31.cell? ⟨gb671, 1, none⟩ = some (.int .i64 ((rd_T73 l1 x24_2).f1)) := (blk_cell BK671.out 1).trans rfl; have hcz32_2 : w31.cell? ⟨gb671, 2, none⟩ = some (.int .i64 ((rd_T73 l1 x24_2).f2)) := (blk_cell BK671.out 2).trans rfl; have hfz32_0 := blk_frozen BK671.out 0; have hfz32_1 := blk_frozen BK671.out 1; have hfz32_2 := blk_frozen BK671.out 2; obtain ⟨Ao33, co33, eo33⟩ := Kd.R_slice HO_6.out; subst eo33) | ((with_reducible refine gate_callee (f := 67) rfl ?_); refine goesL_ (some 41) rfl rfl Try.func67 (by kernel_rfl) rfl #[.slice Ao33 x6_2.length co33, .int .i64 ((rd_T73 l1 x24_2).f1)] rfl (by (try simp only [List.map_toArray, List.map_cons, List.map_nil]); first | done | rfl | (simp only [List.length_drop, List.length_take]; rfl)) ?_; (with_reducible refine (boscagelaw02_Cut.calls k2 _ _ x6_2 ((rd_T73 l1 x24_2).f1) t677 _ ?side1 ?side2 A17.out).mono ?_); (case side1 => repeat (first | exact (Kd.R_reads' HO_6.out).2.2 | (with_reducible refine Kd.C_alloc ?_ _) | (with_reducible refine Kd.C_drewN ?_ _) | (with_reducible refine Kd.C_drew ?_))); (case side2 => exact (Kd.R_reads' HO_6.out).2.1); rintro e w34 ⟨v678, rfl, ho0, hb⟩; refine ⟨_, rfl, ?_⟩; have n0_ := Aside0.mk (Kd.R_elder' (by (with_reducible repeat (first | apply Kd.R_alloc | apply Kd.R_drewN | apply Kd.R_drew)); exact HO_5.out) (Kd.R_base ho0) hb); have n1_ := Aside0.mk (Kd.R_elder' (by (with_reducible repeat (first | apply Kd.R_alloc | apply Kd.R_drewN | apply Kd.R_drew)); exact HO_6.out) (Kd.R_base ho0) hb); have n2_ := Aside0.mk (Kd.R_elder' (by (with_reducible repeat (first | apply Kd.R_alloc | apply Kd.R_drewN | apply Kd.R_drew)); exact HO676.out) (Kd.R_base ho0) hb); have n3_ := Aside0.mk (Kd.R_lower (Kd.R_new' (Kd.R_new' (Kd.R_new' ho0 (Kd.R_lt (by (with_reducible repeat (first | apply Kd.R_alloc | apply Kd.R_drewN | apply Kd.R_drew)); exact HO_5.out))) (Kd.R_lt (by (with_reducible repeat (first | apply Kd.R_alloc | apply Kd.R_drewN | apply Kd.R_drew)); exact HO_6.out))) (Kd.R_lt (by (with_reducible repeat (first | apply Kd.R_alloc | apply Kd.R_drewN | apply Kd.R_drew)); exact HO676.out))) (below_size (by repeat (first | (with_reducible first | exact HB.out | apply below_alloc | apply pw_below_drewN | apply below_drew1 | refine below_set ?_ GE671.out) | exact HB.out)))); have n4_ := Aside0.mk (blk_below (g := gb671) (o := .cells #[.bool true, .int .i64 ((rd_T73 l1 x24_2).f1), .int .i64 ((rd_T73 l1 x24_2).f2)] 73 (0, 0)) (by (with_reducible repeat (first | refine blk_drewN ?_ _ | refine blk_drew ?_ | refine blk_alloc ?_ _)); exact BK671.out) hb); have n5_ := Aside0.mk (below_step (by repeat (first | (with_reducible first | exact HB.out | apply below_alloc | apply pw_below_drewN | apply below_drew1 | refine below_set ?_ GE671.out) | exact HB.out)) hb); clear HO_5; clear HO_6; clear HO676; clear BK671; clear HB; have HO_5 := n0_; have HO_6 := n1_; have HO676 := n2_; have HO679 := n3_; have BK671 := n4_; have HB := n5_; clear n0_ n1_ n2_ n3_ n4_ n5_; (try clear hb); (try clear hb2); (try clear hk); (try clear hi); (try clear ho0); obtain ⟨Ao35, co35, eo35⟩ := Kd.R_slice HO676.out; subst eo35) | ((with_reducible refine gate_callee (f := 61) rfl ?_); refine goesL_ (some 59) rfl rfl Try.func61 (by kernel_rfl) rfl #[.slice Ao35 t672.length co35] rfl (by (try simp only [List.map_toArray, List.map_cons, List.map_nil]); first | done | rfl | (simp only [List.length_drop, List.length_take]; rfl)) ?_; (with_reducible refine (leaf_Leaf_Rises.calls k2 _ _ t672 false _ ?side1 ?side2 A18.out).mono ?_); (case side1 => repeat (first | exact (Kd.R_reads' HO676.out).2.2 | (with_reducible refine Kd.C_alloc ?_ _) | (with_reducible refine Kd.C_drewN ?_ _) | (with_reducible refine Kd.C_drew ?_))); (case side2 => exact (Kd.R_reads' HO676.out).2.1); rintro e w' ⟨rfl, ⟨nd, rfl⟩⟩; refine ⟨_, rfl, ?_⟩))
                        go_ret
                        exact ⟨by first | rfl | (simp [errW_none, errW_some] <;> rfl) | (simp [*, errW_none, errW_some] <;> rfl), by repeat (first | (with_reducible first | exact HB.out | apply below_alloc | apply pw_below_drewN | apply below_drew1 | refine below_set ?_ GE671.out) | exact HB.out)⟩
                    · replace c15 := Bool.eq_false_iff.mpr c15
                      subst c15
                      have H1 : ((leaf_Leaf_Put.f x5_2 ((rd_T73 l1 x24_2).f1) ((rd_T73 l1 x24_2).f2)).bind fun bt681 => ((boscagelaw02_Put.f k2 x6_2 ((rd_T73 l1 x24_2).f1) ((rd_T73 l1 x24_2).f2)).bind fun t686 => ((leaf_Leaf_Rises.f k2 bt681.1).bind fun t689 => (if t689 = true then (boscagelaw02_LeafChains.l0 k2 bt681.1 t686 l1 (l1.length : Int) (wrap64 (x24_2 + 1))) else (some false))))) = some r := by rw [if_neg (show ¬ (false = true) by decide)] at H; exact H
                      clear H
                      have H := H1
                      clear H1
                      replace H := Option.bind_eq_some_iff.mp H
                      obtain ⟨⟨t681, t682, t683⟩, A360, H⟩ := H
                      replace H : ((boscagelaw02_Put.f k2 x6_2 ((rd_T73 l1 x24_2).f1) ((rd_T73 l1 x24_2).f2)).bind fun t686 => ((leaf_Leaf_Rises.f k2 t681).bind fun t689 => (if t689 = true then (boscagelaw02_LeafChains.l0 k2 t681 t686 l1 (l1.length : Int) (wrap64 (x24_2 + 1))) else (some false)))) = some r := H
                      have A36 := Aside0.mk A360
                      clear A360
                      replace H := Option.bind_eq_some_iff.mp H
                      obtain ⟨t686, A370, H⟩ := H
                      replace H : ((leaf_Leaf_Rises.f k2 t681).bind fun t689 => (if t689 = true then (boscagelaw02_LeafChains.l0 k2 t681 t686 l1 (l1.length : Int) (wrap64 (x24_2 + 1))) else (some false))) = some r := H
                      have A37 := Aside0.mk A370
                      clear A370
                      replace H := Option.bind_eq_some_iff.mp H
                      obtain ⟨t689, A380, H⟩ := H
                      replace H : (if t689 = true then (boscagelaw02_LeafChains.l0 k2 t681 t686 l1 (l1.length : Int) (wrap64 (x24_2 + 1))) else (some false)) = some r := H
                      have A38 := Aside0.mk A380
                      clear A380
                      by_cases c39 : t689 = true
                      · subst c39
                        have H1 : (boscagelaw02_LeafChains.l0 k2 t681 t686 l1 (l1.length : Int) (wrap64 (x24_2 + 1))) = some r := by rw [if_pos rfl] at H; exact H
                        clear H
                        have H := H1
                        clear H1
                        have H' := Aside0.mk H
                        clear H
                        have p670 : 0 ≤ (x24_2 : Int) := of_decide_eq_true (by first | (with_reducible assumption) | assumption)
                        have q670 : x24_2 < (l1.length : Int) := of_decide_eq_true (by first | (with_reducible assumption) | assumption)
                        obtain ⟨ad670, e670, hx670_0, hx670_1, hx670_2⟩ := at_T73 HR1.out x24_2 p670 q670
                        (try rw [← Nbq14.out] at hx670_0)
                        cases e670
                        replace hx670_0 := (HB.out.cell (World.block_lt_of_cell? w _ hx670_0)).trans hx670_0
                        replace hx670_1 := (HB.out.cell (World.block_lt_of_cell? w _ hx670_1)).trans hx670_1
                        replace hx670_2 := (HB.out.cell (World.block_lt_of_cell? w _ hx670_2)).trans hx670_2
                        replace p670 := eq_true p670
                        replace q670 := eq_true q670
                        go_wp2_with (first | ((with_reducible refine gate_dst (N := 8) rfl ?_); (try (refine gate_guard (by rfl) ?_; dsimp only)); refine box_event ?hg (N := 8) ?hd (cs := #[.bool false, .int .i64 0, .int .i64 0]) (t := 73) ?hr ?_; (case hd => rfl); (case hg => rfl); (case hr => first | (go_simp; done) | (go_simp; rfl)); intro gb671 hg w40 hbox hb; have n0_ := Aside0.mk (Kd.R_below (by (with_reducible repeat (first | apply Kd.R_alloc | apply Kd.R_drewN | apply Kd.R_drew)); exact HO_5.out) hb); have n1_ := Aside0.mk (Kd.R_below (by (with_reducible repeat (first | apply Kd.R_alloc | apply Kd.R_drewN | apply Kd.R_drew)); exact HO_6.out) hb); have n2_ := Aside0.mk (below_step (by repeat (first | (with_reducible first | exact HB.out | apply below_alloc | apply pw_below_drewN | apply below_drew1) | exact HB.out)) hb); have n3_ := Aside0.mk (hbox); have n4_ := Aside0.mk ((by rw [hg]; exact (below_size (by repeat (first | (with_reducible first | exact HB.out | apply below_alloc | apply pw_below_drewN | apply below_drew1) | exact HB.out))) : w.heap.size ≤ gb671)); have n5_ := Aside0.mk ((by rw [hg]; exact (below_size (by repeat (first | (with_reducible first | exact HB.out | apply below_alloc | apply pw_below_drewN | apply below_drew1) | exact HB.out))) : w.heap.size ≤ gb671)); clear HO_5; clear HO_6; clear HB; have HO_5 := n0_; have HO_6 := n1_; have HB := n2_; have BK671 := n3_; have GW671 := n4_; have GE671 := n5_; clear n0_ n1_ n2_ n3_ n4_ n5_; clear hb hbox hg; have hcz41_0 : w40.cell? ⟨gb671, 0, none⟩ = some (.bool false) := (blk_cell BK671.out 0).trans rfl; have hcz41_1 : w40.cell? ⟨gb671, 1, none⟩ = some (.int .i64 0) := (blk_cell BK671.out 1).trans rfl; have hcz41_2 : w40.cell? ⟨gb671, 2, none⟩ = some (.int .i64 0) := (blk_cell BK671.out 2).trans rfl; have hfz41_0 := blk_frozen BK671.out 0; have hfz41_1 := blk_frozen BK671.out 1; have hfz41_2 := blk_frozen BK671.out 2; obtain ⟨Ao42, co42, eo42⟩ := Kd.R_slice HO_5.out; subst eo42) | ((with_reducible refine gate_callee (f := 68) rfl ?_); refine goesL_ (some 48) rfl rfl Try.func68 (by kernel_rfl) rfl #[.slice Ao42 x5_2.length co42, .int .i64 ((rd_T73 l1 x24_2).f1), .int .i64 ((rd_T73 l1 x24_2).f2)] rfl (by (try simp only [List.map_toArray, List.map_cons, List.map_nil]); first | done | rfl | (simp only [List.length_drop, List.length_take]; rfl)) ?_; (with_reducible refine (leaf_Leaf_Put.calls _ _ x5_2 ((rd_T73 l1 x24_2).f1) ((rd_T73 l1 x24_2).f2) t681 t682 t683 _ ?side1 ?side2 A36.out).mono ?_); (case side1 => refine (Kd.R_reads' (e := 40) (base := w.heap.size) (ok := fun k_ => True) (n := x5_2.length) (c := co42) ?_).2.2; exact (by (with_reducible repeat (first | apply Kd.R_alloc | apply Kd.R_drewN | apply Kd.R_drew)); exact (Kd.R_mono (Kd.R_far (p := ⟨gb671, 2, none⟩) (Kd.R_far (p := ⟨gb671, 1, none⟩) (Kd.R_far (p := ⟨gb671, 0, none⟩) (Kd.R_types HO_5.out BK671.out (by decide)) (fun _ hk => hk.2) (.bool false)) (fun _ hk => hk.2) (.int .i64 ((rd_T73 l1 x24_2).f1))) (fun _ hk => hk.2) (.int .i64 ((rd_T73 l1 x24_2).f2))) (fun _ h_ => h_.1)))); (case side2 => exact (Kd.R_reads' HO_5.out).2.1); rintro e w43 ⟨v684, rfl, ho0, hb⟩; refine ⟨_, rfl, ?_⟩; have n0_ := Aside0.mk (Kd.R_elder' (by (with_reducible repeat (first | apply Kd.R_alloc | apply Kd.R_drewN | apply Kd.R_drew)); exact (Kd.R_mono (Kd.R_far (p := ⟨gb671, 2, none⟩) (Kd.R_far (p := ⟨gb671, 1, none⟩) (Kd.R_far (p := ⟨gb671, 0, none⟩) (Kd.R_types HO_5.out BK671.out (by decide)) (fun _ hk => hk.2) (.bool false)) (fun _ hk => hk.2) (.int .i64 ((rd_T73 l1 x24_2).f1))) (fun _ hk => hk.2) (.int .i64 ((rd_T73 l1 x24_2).f2))) (fun _ h_ => h_.1))) (Kd.R_base ho0) hb); have n1_ := Aside0.mk (Kd.R_elder' (by (with_reducible repeat (first | apply Kd.R_alloc | apply Kd.R_drewN | apply Kd.R_drew)); exact (Kd.R_mono (Kd.R_far (p := ⟨gb671, 2, none⟩) (Kd.R_far (p := ⟨gb671, 1, none⟩) (Kd.R_far (p := ⟨gb671, 0, none⟩) (Kd.R_types HO_6.out BK671.out (by decide)) (fun _ hk => hk.2) (.bool false)) (fun _ hk => hk.2) (.int .i64 ((rd_T73 l1 x24_2).f1))) (fun _ hk => hk.2) (.int .i64 ((rd_T73 l1 x24_2).f2))) (fun _ h_ => h_.1))) (Kd.R_base ho0) hb); have n2_ := Aside0.mk (Kd.R_lower (Kd.R_new' (Kd.R_new' ho0 (Kd.R_lt (by (with_reducible repeat (first | apply Kd.R_alloc | apply Kd.R_drewN | apply Kd.R_drew)); exact (Kd.R_mono (Kd.R_far (p := ⟨gb671, 2, none⟩) (Kd.R_far (p := ⟨gb671, 1, none⟩) (Kd.R_far (p := ⟨gb671, 0, none⟩) (Kd.R_types HO_5.out BK671.out (by decide)) (fun _ hk => hk.2) (.bool false)) (fun _ hk => hk.2) (.int .i64 ((rd_T73 l1 x24_2).f1))) (fun _ hk => hk.2) (.int .i64 ((rd_T73 l1 x24_2).f2))) (fun _ h_ => h_.1))))) (Kd.R_lt (by (with_reducible repeat (first | apply Kd.R_alloc | apply Kd.R_drewN | apply Kd.R_drew)); exact (Kd.R_mono (Kd.R_far (p := ⟨gb671, 2, none⟩) (Kd.R_far (p := ⟨gb671, 1, none⟩) (Kd.R_far (p := ⟨gb671, 0, none⟩) (Kd.R_types HO_6.out BK671.out (by decide)) (fun _ hk => hk.2) (.bool false)) (fun _ hk => hk.2) (.int .i64 ((rd_T73 l1 x24_2).f1))) (fun _ hk => hk.2) (.int .i64 ((rd_T73 l1 x24_2).f2))) (fun _ h_ => h_.1))))) (below_size (by repeat (first | (with_reducible first | exact HB.out | apply below_alloc | apply pw_below_drewN | apply below_drew1 | refine below_set ?_ GE671.out) | exact HB.out)))); have n3_ := Aside0.mk (blk_below (g := gb671) (o := .cells #[.bool false, .int .i64 ((rd_T73 l1 x24_2).f1), .int .i64 ((rd_T73 l1 x24_2).f2)] 73 (0, 0)) (by (with_reducible repeat (first | refine blk_drewN ?_ _ | refine blk_drew ?_ | refine blk_alloc ?_ _)); refine blk_put (cs := #[.bool false, .int .i64 ((rd_T73 l1 x24_2).f1), .int .i64 0]) ?_ 2 _ rfl; (with_reducible repeat (first | refine blk_drewN ?_ _ | refine blk_drew ?_ | refine blk_alloc ?_ _)); refine blk_put (cs := #[.bool false, .int .i64 0, .int .i64 0]) ?_ 1 _ rfl; (with_reducible repeat (first | refine blk_drewN ?_ _ | refine blk_drew ?_ | refine blk_alloc ?_ _)); refine blk_put (cs := #[.bool false, .int .i64 0, .int .i64 0]) ?_ 0 _ rfl; (with_reducible repeat (first | refine blk_drewN ?_ _ | refine blk_drew ?_ | refine blk_alloc ?_ _)); exact BK671.out) hb); have n4_ := Aside0.mk (below_step (by repeat (first | (with_reducible first | exact HB.out | apply below_alloc | apply pw_below_drewN | apply below_drew1 | refine below_set ?_ GE671.out) | exact HB.out)) hb); clear HO_5; clear HO_6; clear BK671; clear HB; have HO_5 := n0_; have HO_6 := n1_; have HO685 := n2_; have BK671 := n3_; have HB := n4_; clear n0_ n1_ n2_ n3_ n4_; (try clear hb); (try clear hb2); (try clear hk); (try clear hi); (try clear ho0); have hcz44_0 : w43.cell? ⟨gb671, 0, none⟩ = some (.bool false) := (blk_cell BK671.out 0).trans rfl; have hcz44_1 : w43.cell? ⟨gb671, 1, none⟩ = some (.int .i64 ((rd_T73 l1 x24_2).f1)) := (blk_cell BK671.out 1).trans rfl; have hcz44_2 : w43.cell? ⟨gb671, 2, none⟩ = some (.int .i64 ((rd_T73 l1 x24_2).f2)) := (blk_cell BK671.out 2).trans rfl; have hfz44_0 := blk_frozen BK671.out 0; have hfz44_1 := blk_frozen BK671.out 1; have hfz44_2 := blk_frozen BK671.out 2; obtain ⟨Ao45, co45, eo45⟩ := Kd.R_slice HO_6.out; subst eo45) | ((with_reducible refine gate_callee (f := 69) rfl ?_); refine goesL_ (some 57) rfl rfl Try.func69 (by kernel_rfl) rfl #[.slice Ao45 x6_2.length co45, .int .i64 ((rd_T73 l1 x24_2).f1), .int .i64 ((rd_T73 l1 x24_2).f2)] rfl (by (try simp only [List.map_toArray, List.map_cons, List.map_nil]); first | done | rfl | (simp only [List.length_drop, List.length_take]; rfl)) ?_; (with_reducible refine (boscagelaw02_Put.calls k2 _ _ x6_2 ((rd_T73 l1 x24_2).f1) ((rd_T73 l1 x24_2).f2) t686 _ ?side1 ?side2 A37.out).mono ?_); (case side1 => repeat (first | exact (Kd.R_reads' HO_6.out).2.2 | (with_reducible refine Kd.C_alloc ?_ _) | (with_reducible refine Kd.C_drewN ?_ _) | (with_reducible refine Kd.C_drew ?_))); (case side2 => exact (Kd.R_reads' HO_6.out).2.1); rintro e w46 ⟨v687, rfl, ho0, hb⟩; refine ⟨_, rfl, ?_⟩; have n0_ := Aside0.mk (Kd.R_elder' (by (with_reducible repeat (first | apply Kd.R_alloc | apply Kd.R_drewN | apply Kd.R_drew)); exact HO_5.out) (Kd.R_base ho0) hb); have n1_ := Aside0.mk (Kd.R_elder' (by (with_reducible repeat (first | apply Kd.R_alloc | apply Kd.R_drewN | apply Kd.R_drew)); exact HO_6.out) (Kd.R_base ho0) hb); have n2_ := Aside0.mk (Kd.R_elder' (by (with_reducible repeat (first | apply Kd.R_alloc | apply Kd.R_drewN | apply Kd.R_drew)); exact HO685.out) (Kd.R_base ho0) hb); have n3_ := Aside0.mk (Kd.R_lower (Kd.R_new' (Kd.R_new' (Kd.R_new' ho0 (Kd.R_lt (by (with_reducible repeat (first | apply Kd.R_alloc | apply Kd.R_drewN | apply Kd.R_drew)); exact HO_5.out))) (Kd.R_lt (by (with_reducible repeat (first | apply Kd.R_alloc | apply Kd.R_drewN | apply Kd.R_drew)); exact HO_6.out))) (Kd.R_lt (by (with_reducible repeat (first | apply Kd.R_alloc | apply Kd.R_drewN | apply Kd.R_drew)); exact HO685.out))) (below_size (by repeat (first | (with_reducible first | exact HB.out | apply below_alloc | apply pw_below_drewN | apply below_drew1 | refine below_set ?_ GE671.out) | exact HB.out)))); have n4_ := Aside0.mk (blk_below (g := gb671) (o := .cells #[.bool false, .int .i64 ((rd_T73 l1 x24_2).f1), .int .i64 ((rd_T73 l1 x24_2).f2)] 73 (0, 0)) (by (with_reducible repeat (first | refine blk_drewN ?_ _ | refine blk_drew ?_ | refine blk_alloc ?_ _)); exact BK671.out) hb); have n5_ := Aside0.mk (below_step (by repeat (first | (with_reducible first | exact HB.out | apply below_alloc | apply pw_below_drewN | apply below_drew1 | refine below_set ?_ GE671.out) | exact HB.out)) hb); clear HO_5; clear HO_6; clear HO685; clear BK671; clear HB; have HO_5 := n0_; have HO_6 := n1_; have HO685 := n2_; have HO688 := n3_; have BK671 := n4_; have HB := n5_; clear n0_ n1_ n2_ n3_ n4_ n5_; (try clear hb); (try clear hb2); (try clear hk); (try clear hi); (try clear ho0); obtain ⟨Ao47, co47, eo47⟩ := Kd.R_slice HO685.out; subst eo47) | ((with_reducible refine gate_callee (f := 61) rfl ?_); refine goesL_ (some 59) rfl rfl Try.func61 (by kernel_rfl) rfl #[.slice Ao47 t681.length co47] rfl (by (try simp only [List.map_toArray, List.map_cons, List.map_nil]); first | done | rfl | (simp only [List.length_drop, List.length_take]; rfl)) ?_; (with_reducible refine (leaf_Leaf_Rises.calls k2 _ _ t681 true _ ?side1 ?side2 A38.out).mono ?_); (case side1 => repeat (first | exact (Kd.R_reads' HO685.out).2.2 | (with_reducible refine Kd.C_alloc ?_ _) | (with_reducible refine Kd.C_drewN ?_ _) | (with_reducible refine Kd.C_drew ?_))); (case side2 => exact (Kd.R_reads' HO685.out).2.1); rintro e w' ⟨rfl, ⟨nd, rfl⟩⟩; refine ⟨_, rfl, ?_⟩))
                        go_roundg k2
                        case measure => have := HJ4.out; have := HK2.out; omega
                        case rel => exact ⟨(t681), (t686), (wrap64 (x24_2 + 1)), (by first | rfl | (simp; done) | (simp [*]; done)), H', ⟨by have := HJ4.out; have := HK2.out; omega⟩, ⟨by (with_reducible repeat (first | apply Kd.R_alloc | apply Kd.R_drewN | apply Kd.R_drew)); exact Kd.R_mono HO685.out (fun _ _ => trivial)⟩, ⟨by (with_reducible repeat (first | apply Kd.R_alloc | apply Kd.R_drewN | apply Kd.R_drew)); exact Kd.R_mono HO688.out (fun _ _ => trivial)⟩, ⟨by repeat (first | (with_reducible first | exact HB.out | apply below_alloc | apply pw_below_drewN | apply below_drew1 | refine below_set ?_ GE671.out) | exact HB.out)⟩⟩
                      · replace c39 := Bool.eq_false_iff.mpr c39
                        subst c39
                        have H1 : (some false) = some r := by rw [if_neg (show ¬ (false = true) by decide)] at H; exact H
                        clear H
                        have H := H1
                        clear H1
                        obtain rfl := Option.some.inj H
                        have p670 : 0 ≤ (x24_2 : Int) := of_decide_eq_true (by first | (with_reducible assumption) | assumption)
                        have q670 : x24_2 < (l1.length : Int) := of_decide_eq_true (by first | (with_reducible assumption) | assumption)
                        obtain ⟨ad670, e670, hx670_0, hx670_1, hx670_2⟩ := at_T73 HR1.out x24_2 p670 q670
                        (try rw [← Nbq14.out] at hx670_0)
                        cases e670
                        replace hx670_0 := (HB.out.cell (World.block_lt_of_cell? w _ hx670_0)).trans hx670_0
                        replace hx670_1 := (HB.out.cell (World.block_lt_of_cell? w _ hx670_1)).trans hx670_1
                        replace hx670_2 := (HB.out.cell (World.block_lt_of_cell? w _ hx670_2)).trans hx670_2
                        replace p670 := eq_true p670
                        replace q670 := eq_true q670
                        go_wp2_with (first | ((with_reducible refine gate_dst (N := 8) rfl ?_); (try (refine gate_guard (by rfl) ?_; dsimp only)); refine box_event ?hg (N := 8) ?hd (cs := #[.bool false, .int .i64 0, .int .i64 0]) (t := 73) ?hr ?_; (case hd => rfl); (case hg => rfl); (case hr => first | (go_simp; done) | (go_simp; rfl)); intro gb671 hg w48 hbox hb; have n0_ := Aside0.mk (Kd.R_below (by (with_reducible repeat (first | apply Kd.R_alloc | apply Kd.R_drewN | apply Kd.R_drew)); exact HO_5.out) hb); have n1_ := Aside0.mk (Kd.R_below (by (with_reducible repeat (first | apply Kd.R_alloc | apply Kd.R_drewN | apply Kd.R_drew)); exact HO_6.out) hb); have n2_ := Aside0.mk (below_step (by repeat (first | (with_reducible first | exact HB.out | apply below_alloc | apply pw_below_drewN | apply below_drew1) | exact HB.out)) hb); have n3_ := Aside0.mk (hbox); have n4_ := Aside0.mk ((by rw [hg]; exact (below_size (by repeat (first | (with_reducible first | exact HB.out | apply below_alloc | apply pw_below_drewN | apply below_drew1) | exact HB.out))) : w.heap.size ≤ gb671)); have n5_ := Aside0.mk ((by rw [hg]; exact (below_size (by repeat (first | (with_reducible first | exact HB.out | apply below_alloc | apply pw_below_drewN | apply below_drew1) | exact HB.out))) : w.heap.size ≤ gb671)); clear HO_5; clear HO_6; clear HB; have HO_5 := n0_; have HO_6 := n1_; have HB := n2_; have BK671 := n3_; have GW671 := n4_; have GE671 := n5_; clear n0_ n1_ n2_ n3_ n4_ n5_; clear hb hbox hg; have hcz49_0 : w48.cell? ⟨gb671, 0, none⟩ = some (.bool false) := (blk_cell BK671.out 0).trans rfl; have hcz49_1 : w48.cell? ⟨gb671, 1, none⟩ = some (.int .i64 0) := (blk_cell BK671.out 1).trans rfl; have hcz49_2 : w48.cell? ⟨gb671, 2, none⟩ = some (.int .i64 0) := (blk_cell BK671.out 2).trans rfl; have hfz49_0 := blk_frozen BK671.out 0; have hfz49_1 := blk_frozen BK671.out 1; have hfz49_2 := blk_frozen BK671.out 2; obtain ⟨Ao50, co50, eo50⟩ := Kd.R_slice HO_5.out; subst eo50) | ((with_reducible refine gate_callee (f := 68) rfl ?_); refine goesL_ (some 48) rfl rfl Try.func68 (by kernel_rfl) rfl #[.slice Ao50 x5_2.length co50, .int .i64 ((rd_T73 l1 x24_2).f1), .int .i64 ((rd_T73 l1 x24_2).f2)] rfl (by (try simp only [List.map_toArray, List.map_cons, List.map_nil]); first | done | rfl | (simp only [List.length_drop, List.length_take]; rfl)) ?_; (with_reducible refine (leaf_Leaf_Put.calls _ _ x5_2 ((rd_T73 l1 x24_2).f1) ((rd_T73 l1 x24_2).f2) t681 t682 t683 _ ?side1 ?side2 A36.out).mono ?_); (case side1 => refine (Kd.R_reads' (e := 40) (base := w.heap.size) (ok := fun k_ => True) (n := x5_2.length) (c := co50) ?_).2.2; exact (by (with_reducible repeat (first | apply Kd.R_alloc | apply Kd.R_drewN | apply Kd.R_drew)); exact (Kd.R_mono (Kd.R_far (p := ⟨gb671, 2, none⟩) (Kd.R_far (p := ⟨gb671, 1, none⟩) (Kd.R_far (p := ⟨gb671, 0, none⟩) (Kd.R_types HO_5.out BK671.out (by decide)) (fun _ hk => hk.2) (.bool false)) (fun _ hk => hk.2) (.int .i64 ((rd_T73 l1 x24_2).f1))) (fun _ hk => hk.2) (.int .i64 ((rd_T73 l1 x24_2).f2))) (fun _ h_ => h_.1)))); (case side2 => exact (Kd.R_reads' HO_5.out).2.1); rintro e w51 ⟨v684, rfl, ho0, hb⟩; refine ⟨_, rfl, ?_⟩; have n0_ := Aside0.mk (Kd.R_elder' (by (with_reducible repeat (first | apply Kd.R_alloc | apply Kd.R_drewN | apply Kd.R_drew)); exact (Kd.R_mono (Kd.R_far (p := ⟨gb671, 2, none⟩) (Kd.R_far (p := ⟨gb671, 1, none⟩) (Kd.R_far (p := ⟨gb671, 0, none⟩) (Kd.R_types HO_5.out BK671.out (by decide)) (fun _ hk => hk.2) (.bool false)) (fun _ hk => hk.2) (.int .i64 ((rd_T73 l1 x24_2).f1))) (fun _ hk => hk.2) (.int .i64 ((rd_T73 l1 x24_2).f2))) (fun _ h_ => h_.1))) (Kd.R_base ho0) hb); have n1_ := Aside0.mk (Kd.R_elder' (by (with_reducible repeat (first | apply Kd.R_alloc | apply Kd.R_drewN | apply Kd.R_drew)); exact (Kd.R_mono (Kd.R_far (p := ⟨gb671, 2, none⟩) (Kd.R_far (p := ⟨gb671, 1, none⟩) (Kd.R_far (p := ⟨gb671, 0, none⟩) (Kd.R_types HO_6.out BK671.out (by decide)) (fun _ hk => hk.2) (.bool false)) (fun _ hk => hk.2) (.int .i64 ((rd_T73 l1 x24_2).f1))) (fun _ hk => hk.2) (.int .i64 ((rd_T73 l1 x24_2).f2))) (fun _ h_ => h_.1))) (Kd.R_base ho0) hb); have n2_ := Aside0.mk (Kd.R_lower (Kd.R_new' (Kd.R_new' ho0 (Kd.R_lt (by (with_reducible repeat (first | apply Kd.R_alloc | apply Kd.R_drewN | apply Kd.R_drew)); exact (Kd.R_mono (Kd.R_far (p := ⟨gb671, 2, none⟩) (Kd.R_far (p := ⟨gb671, 1, none⟩) (Kd.R_far (p := ⟨gb671, 0, none⟩) (Kd.R_types HO_5.out BK671.out (by decide)) (fun _ hk => hk.2) (.bool false)) (fun _ hk => hk.2) (.int .i64 ((rd_T73 l1 x24_2).f1))) (fun _ hk => hk.2) (.int .i64 ((rd_T73 l1 x24_2).f2))) (fun _ h_ => h_.1))))) (Kd.R_lt (by (with_reducible repeat (first | apply Kd.R_alloc | apply Kd.R_drewN | apply Kd.R_drew)); exact (Kd.R_mono (Kd.R_far (p := ⟨gb671, 2, none⟩) (Kd.R_far (p := ⟨gb671, 1, none⟩) (Kd.R_far (p := ⟨gb671, 0, none⟩) (Kd.R_types HO_6.out BK671.out (by decide)) (fun _ hk => hk.2) (.bool false)) (fun _ hk => hk.2) (.int .i64 ((rd_T73 l1 x24_2).f1))) (fun _ hk => hk.2) (.int .i64 ((rd_T73 l1 x24_2).f2))) (fun _ h_ => h_.1))))) (below_size (by repeat (first | (with_reducible first | exact HB.out | apply below_alloc | apply pw_below_drewN | apply below_drew1 | refine below_set ?_ GE671.out) | exact HB.out)))); have n3_ := Aside0.mk (blk_below (g := gb671) (o := .cells #[.bool false, .int .i64 ((rd_T73 l1 x24_2).f1), .int .i64 ((rd_T73 l1 x24_2).f2)] 73 (0, 0)) (by (with_reducible repeat (first | refine blk_drewN ?_ _ | refine blk_drew ?_ | refine blk_alloc ?_ _)); refine blk_put (cs := #[.bool false, .int .i64 ((rd_T73 l1 x24_2).f1), .int .i64 0]) ?_ 2 _ rfl; (with_reducible repeat (first | refine blk_drewN ?_ _ | refine blk_drew ?_ | refine blk_alloc ?_ _)); refine blk_put (cs := #[.bool false, .int .i64 0, .int .i64 0]) ?_ 1 _ rfl; (with_reducible repeat (first | refine blk_drewN ?_ _ | refine blk_drew ?_ | refine blk_alloc ?_ _)); refine blk_put (cs := #[.bool false, .int .i64 0, .int .i64 0]) ?_ 0 _ rfl; (with_reducible repeat (first | refine blk_drewN ?_ _ | refine blk_drew ?_ | refine blk_alloc ?_ _)); exact BK671.out) hb); have n4_ := Aside0.mk (below_step (by repeat (first | (with_reducible first | exact HB.out | apply below_alloc | apply pw_below_drewN | apply below_drew1 | refine below_set ?_ GE671.out) | exact HB.out)) hb); clear HO_5; clear HO_6; clear BK671; clear HB; have HO_5 := n0_; have HO_6 := n1_; have HO685 := n2_; have BK671 := n3_; have HB := n4_; clear n0_ n1_ n2_ n3_ n4_; (try clear hb); (try clear hb2); (try clear hk); (try clear hi); (try clear ho0); have hcz52_0 : w51.cell? ⟨gb671, 0, none⟩ = some (.bool false) := (blk_cell BK671.out 0).trans rfl; have hcz52_1 : w51.cell? ⟨gb671, 1, none⟩ = some (.int .i64 ((rd_T73 l1 x24_2).f1)) := (blk_cell BK671.out 1).trans rfl; have hcz52_2 : w51.cell? ⟨gb671, 2, none⟩ = some (.int .i64 ((rd_T73 l1 x24_2).f2)) := (blk_cell BK671.out 2).trans rfl; have hfz52_0 := blk_frozen BK671.out 0; have hfz52_1 := blk_frozen BK671.out 1; have hfz52_2 := blk_frozen BK671.out 2; obtain ⟨Ao53, co53, eo53⟩ := Kd.R_slice HO_6.out; subst eo53) | ((with_reducible refine gate_callee (f := 69) rfl ?_); refine goesL_ (some 57) rfl rfl Try.func69 (by kernel_rfl) rfl #[.slice Ao53 x6_2.length co53, .int .i64 ((rd_T73 l1 x24_2).f1), .int .i64 ((rd_T73 l1 x24_2).f2)] rfl (by (try simp only [List.map_toArray, List.map_cons, List.map_nil]); first | done | rfl | (simp only [List.length_drop, List.length_take]; rfl)) ?_; (with_reducible refine (boscagelaw02_Put.calls k2 _ _ x6_2 ((rd_T73 l1 x24_2).f1) ((rd_T73 l1 x24_2).f2) t686 _ ?side1 ?side2 A37.out).mono ?_); (case side1 => repeat (first | exact (Kd.R_reads' HO_6.out).2.2 | (with_reducible refine Kd.C_alloc ?_ _) | (with_reducible refine Kd.C_drewN ?_ _) | (with_reducible refine Kd.C_drew ?_))); (case side2 => exact (Kd.R_reads' HO_6.out).2.1); rintro e w54 ⟨v687, rfl, ho0, hb⟩; refine ⟨_, rfl, ?_⟩; have n0_ := Aside0.mk (Kd.R_elder' (by (with_reducible repeat (first | apply Kd.R_alloc | apply Kd.R_drewN | apply Kd.R_drew)); exact HO_5.out) (Kd.R_base ho0) hb); have n1_ := Aside0.mk (Kd.R_elder' (by (with_reducible repeat (first | apply Kd.R_alloc | apply Kd.R_drewN | apply Kd.R_drew)); exact HO_6.out) (Kd.R_base ho0) hb); have n2_ := Aside0.mk (Kd.R_elder' (by (with_reducible repeat (first | apply Kd.R_alloc | apply Kd.R_drewN | apply Kd.R_drew)); exact HO685.out) (Kd.R_base ho0) hb); have n3_ := Aside0.mk (Kd.R_lower (Kd.R_new' (Kd.R_new' (Kd.R_new' ho0 (Kd.R_lt (by (with_reducible repeat (first | apply Kd.R_alloc | apply Kd.R_drewN | apply Kd.R_drew)); exact HO_5.out))) (Kd.R_lt (by (with_reducible repeat (first | apply Kd.R_alloc | apply Kd.R_drewN | apply Kd.R_drew)); exact HO_6.out))) (Kd.R_lt (by (with_reducible repeat (first | apply Kd.R_alloc | apply Kd.R_drewN | apply Kd.R_drew)); exact HO685.out))) (below_size (by repeat (first | (with_reducible first | exact HB.out | apply below_alloc | apply pw_below_drewN | apply below_drew1 | refine below_set ?_ GE671.out) | exact HB.out)))); have n4_ := Aside0.mk (blk_below (g := gb671) (o := .cells #[.bool false, .int .i64 ((rd_T73 l1 x24_2).f1), .int .i64 ((rd_T73 l1 x24_2).f2)] 73 (0, 0)) (by (with_reducible repeat (first | refine blk_drewN ?_ _ | refine blk_drew ?_ | refine blk_alloc ?_ _)); exact BK671.out) hb); have n5_ := Aside0.mk (below_step (by repeat (first | (with_reducible first | exact HB.out | apply below_alloc | apply pw_below_drewN | apply below_drew1 | refine below_set ?_ GE671.out) | exact HB.out)) hb); clear HO_5; clear HO_6; clear HO685; clear BK671; clear HB; have HO_5 := n0_; have HO_6 := n1_; have HO685 := n2_; have HO688 := n3_; have BK671 := n4_; have HB := n5_; clear n0_ n1_ n2_ n3_ n4_ n5_; (try clear hb); (try clear hb2); (try clear hk); (try clear hi); (try clear ho0); obtain ⟨Ao55, co55, eo55⟩ := Kd.R_slice HO685.out; subst eo55) | ((with_reducible refine gate_callee (f := 61) rfl ?_); refine goesL_ (some 59) rfl rfl Try.func61 (by kernel_rfl) rfl #[.slice Ao55 t681.length co55] rfl (by (try simp only [List.map_toArray, List.map_cons, List.map_nil]); first | done | rfl | (simp only [List.length_drop, List.length_take]; rfl)) ?_; (with_reducible refine (leaf_Leaf_Rises.calls k2 _ _ t681 false _ ?side1 ?side2 A38.out).mono ?_); (case side1 => repeat (first | exact (Kd.R_reads' HO685.out).2.2 | (with_reducible refine Kd.C_alloc ?_ _) | (with_reducible refine Kd.C_drewN ?_ _) | (with_reducible refine Kd.C_drew ?_))); (case side2 => exact (Kd.R_reads' HO685.out).2.1); rintro e w' ⟨rfl, ⟨nd, rfl⟩⟩; refine ⟨_, rfl, ?_⟩))
                        go_ret
                        exact ⟨by first | rfl | (simp [errW_none, errW_some] <;> rfl) | (simp [*, errW_none, errW_some] <;> rfl), by repeat (first | (with_reducible first | exact HB.out | apply below_alloc | apply pw_below_drewN | apply below_drew1 | refine below_set ?_ GE671.out) | exact HB.out)⟩
                  · rw [if_neg c13] at H
                    exact absurd H (by simp)
                · rw [if_neg c12] at H
                  exact absurd H (by simp)
              · rw [if_neg c11] at H
                have c11b0 : decide (x24_2 < (l1.length : Int)) = false := decide_eq_false c11
                clear c11
                replace H := Option.bind_eq_some_iff.mp H
                obtain ⟨t669, A560, H⟩ := H
                replace H : (some t669) = some r := H
                have A56 := Aside0.mk A560
                clear A560
                obtain rfl := Option.some.inj H
                obtain ⟨Ao57, co57, eo57⟩ := Kd.R_slice HO_5.out
                subst eo57
                obtain ⟨Ao58, co58, eo58⟩ := Kd.R_slice HO_6.out
                subst eo58
                go_wp2_with (first | ((with_reducible refine gate_callee (f := 48) rfl ?_); refine goesL_ (some 64) rfl rfl Try.func48 (by kernel_rfl) rfl #[.slice Ao57 x5_2.length co57, .slice Ao58 x6_2.length co58] rfl (by (try simp only [List.map_toArray, List.map_cons, List.map_nil]); first | done | rfl | (simp only [List.length_drop, List.length_take]; rfl)) ?_; (with_reducible refine (boscagelaw02_Same.calls k2 _ _ x5_2 _ _ x6_2 t669 _ ?side1 ?side2 ?side3 ?side4 A56.out).mono ?_); (case side1 => repeat (first | exact (Kd.R_reads' HO_5.out).2.2 | (with_reducible refine Kd.C_alloc ?_ _) | (with_reducible refine Kd.C_drewN ?_ _) | (with_reducible refine Kd.C_drew ?_))); (case side2 => exact (Kd.R_reads' HO_5.out).2.1); (case side3 => repeat (first | exact (Kd.R_reads' HO_6.out).2.2 | (with_reducible refine Kd.C_alloc ?_ _) | (with_reducible refine Kd.C_drewN ?_ _) | (with_reducible refine Kd.C_drew ?_))); (case side4 => exact (Kd.R_reads' HO_6.out).2.1); rintro e w' ⟨rfl, ⟨nd, rfl⟩⟩; refine ⟨_, rfl, ?_⟩))
                go_ret
                exact ⟨by first | rfl | (simp [errW_none, errW_some] <;> rfl) | (simp [*, errW_none, errW_some] <;> rfl), by repeat (first | (with_reducible first | exact HB.out | apply below_alloc | apply pw_below_drewN | apply below_drew1) | exact HB.out)⟩
  · replace c4 := Bool.eq_false_iff.mpr c4
    subst c4
    have H1 : (some false) = some r := by rw [if_neg (show ¬ (false = true) by decide)] at H; exact H
    clear H
    have H := H1
    clear H1
    obtain rfl := Option.some.inj H
    go_enter Try.func17, Try.ntmps17
    go_wp2_with (first | ((with_reducible refine gate_callee (f := 43) rfl ?_); refine goesL_ (some 9) rfl rfl Try.func43 (by kernel_rfl) rfl #[] rfl (by (try simp only [List.map_toArray, List.map_cons, List.map_nil]); first | done | rfl | (simp only [List.length_drop, List.length_take]; rfl)) ?_; (with_reducible refine (boscagelaw02_Awake.calls  false _ A3.out).mono ?_); rintro e w59 ⟨rfl, hb⟩; refine ⟨_, rfl, ?_⟩; have n0_ := Aside0.mk (below_step (by repeat (first | (with_reducible first | exact HB.out | apply below_alloc | apply pw_below_drewN | apply below_drew1) | exact HB.out)) hb); clear HB; have HB := n0_; clear n0_; (try clear hb); (try clear hb2); (try clear hk); (try clear hi)))
    go_ret
    exact ⟨by first | rfl | (simp [errW_none, errW_some] <;> rfl) | (simp [*, errW_none, errW_some] <;> rfl), by repeat (first | (with_reducible first | exact HB.out | apply below_alloc | apply pw_below_drewN | apply below_drew1) | exact HB.out)⟩

end Go.Proofs.Ytkoiffkonjpoiaa.Q
