/- Go functions of the program as plain Lean functions, and for each the contract that the call comes to its answers; written by a turned print of this session. -/
import Derived.Test.YtkoiffkonjpoiaaQ0
import Derived.Test.YtkoiffkonjpoiaaQB1
import Derived.Test.YtkoiffkonjpoiaaQB2
namespace Go.Proofs.Ytkoiffkonjpoiaa.Q
open Go.RowKit Go.Proofs.YtkoiffkonjpoiaaW.PrintWords Go.Proofs.YtkoiffkonjpoiaaW.PrintLast Go.Proofs.YtkoiffkonjpoiaaW.PrintMore Go.Proofs.YtkoiffkonjpoiaaX
attribute [local go_sem] max2_int min2_int max_two min_two max_three min_three max_four min_four   -- for this text's walks alone
set_option linter.unusedVariables false
set_option linter.unusedSimpArgs false

/-! ### boscagelaw03_InnerWays: function 3 -/
def boscagelaw03_InnerWays.f (k : Nat) (l0 : List Int) (a1 : Int) : Option (Bool) := (boscagelaw03_Awake.f k).bind fun t158 => (if t158 = true then (if (l0.length : Int) > 40 then (some true) else ((boscagelaw03_Of.f k l0 1).bind fun bt159 => ((inner_Inner_Way.f k bt159.1 bt159.2 a1).bind fun t166 => ((boscagelaw03_Way.f k bt159.1 bt159.2 a1).bind fun t167 => (some (t166 == t167)))))) else (some false))
theorem boscagelaw03_InnerWays.mono : ∀ a0 a1 k, LeO (boscagelaw03_InnerWays.f k a0 a1) (boscagelaw03_InnerWays.f (k + 1) a0 a1) := by
  intro a0 a1 k
  unfold boscagelaw03_InnerWays.f
  repeat' first
      | (with_reducible exact boscagelaw03_Awake.mono _)
      | (with_reducible exact boscagelaw03_Of.mono _ _ _)
      | (with_reducible exact boscagelaw03_Way.mono _ _ _ _)
      | (with_reducible exact inner_Inner_Way.mono _ _ _ _)
      | (with_reducible exact LeO.refl _)
      | (with_reducible exact LeO.none _)
      | (with_reducible refine LeO.ite ?_ ?_)
      | (with_reducible refine LeO.bind ?_ (fun _ => ?_))
      | exact boscagelaw03_Awake.mono _
      | exact boscagelaw03_Of.mono _ _ _
      | exact boscagelaw03_Way.mono _ _ _ _
      | exact inner_Inner_Way.mono _ _ _ _
      | exact LeO.none _
      | refine LeO.ite ?_ ?_
      | refine LeO.bind ?_ (fun _ => ?_)
def boscagelaw03_InnerWays.T6 : Bool × List (List Nat × List Nat) := (true, [([], []), ([], []), ([0, 1], [0, 1]), ([], []), ([], []), ([3, 4, 2], [3, 4]), ([2, 5], [2, 5]), ([6, 5, 0, 1, 2, 3, 4, 5, 6], [6])])
def boscagelaw03_InnerWays.B6 : List Nat := [0, 0, 3, 0, 0, 31, 63, 127]
theorem boscagelaw03_InnerWays.tab6 : rtab .any (opsOf Try.f3 6) = boscagelaw03_InnerWays.T6 := by kernel_rfl
theorem boscagelaw03_InnerWays.bits6 : waitsOk boscagelaw03_InnerWays.T6.2 boscagelaw03_InnerWays.B6 = true := by kernel_rfl
set_option maxHeartbeats 8000000 in
set_option maxRecDepth 100000 in
theorem boscagelaw03_InnerWays.calls (k : Nat) (A0 : Option Addr) (c0 : Nat) (l0 : List Int) (a1 : Int) (r : Bool) (w : World) (hr0 : Kd.C (Kd.int .i64) w A0 l0.length l0) (hc0 : l0.length ≤ c0) (h : boscagelaw03_InnerWays.f k l0 a1 = some r) :
    Calls Try.prog 3 #[.slice A0 l0.length c0, .int .i64 a1] w fun e w' => e = .returned (.bool r) ∧ Below w.heap.size w w' := by
  have hu26 := Try.underlying26
  have HR0 := Aside0.mk hr0
  have HC0 := Aside0.mk hc0
  clear hr0 hc0
  have HB := Aside0.mk (Below.refl w.heap.size w)
  have H : ((boscagelaw03_Awake.f k).bind fun t158 => (if t158 = true then (if (l0.length : Int) > 40 then (some true) else ((boscagelaw03_Of.f k l0 1).bind fun bt159 => ((inner_Inner_Way.f k bt159.1 bt159.2 a1).bind fun t166 => ((boscagelaw03_Way.f k bt159.1 bt159.2 a1).bind fun t167 => (some (t166 == t167)))))) else (some false))) = some r := h
  clear h
  replace H := Option.bind_eq_some_iff.mp H
  obtain ⟨t158, A30, H⟩ := H
  replace H : (if t158 = true then (if (l0.length : Int) > 40 then (some true) else ((boscagelaw03_Of.f k l0 1).bind fun bt159 => ((inner_Inner_Way.f k bt159.1 bt159.2 a1).bind fun t166 => ((boscagelaw03_Way.f k bt159.1 bt159.2 a1).bind fun t167 => (some (t166 == t167)))))) else (some false)) = some r := H
  have A3 := Aside0.mk A30
  clear A30
  by_cases c4 : t158 = true
  · subst c4
    have H1 : (if (l0.length : Int) > 40 then (some true) else ((boscagelaw03_Of.f k l0 1).bind fun bt159 => ((inner_Inner_Way.f k bt159.1 bt159.2 a1).bind fun t166 => ((boscagelaw03_Way.f k bt159.1 bt159.2 a1).bind fun t167 => (some (t166 == t167)))))) = some r := by rw [if_pos rfl] at H; exact H
    clear H
    have H := H1
    clear H1
    by_cases c5 : (l0.length : Int) > 40
    · rw [if_pos c5] at H
      have c5b0 : decide (40 < (l0.length : Int)) = true := decide_eq_true c5
      have c5b1 : decide (40 < l0.length) = true := decide_eq_true (by omega)
      clear c5
      obtain rfl := Option.some.inj H
      go_enter Try.func3, Try.ntmps3
      go_wp2_with (first | ((with_reducible refine gate_callee (f := 38) rfl ?_); refine goesL_ (some 6) rfl rfl Try.func38 (by kernel_rfl) rfl #[] rfl (by (try simp only [List.map_toArray, List.map_cons, List.map_nil]); first | done | rfl | (simp only [List.length_drop, List.length_take]; rfl)) ?_; (with_reducible refine (boscagelaw03_Awake.calls k  true _ A3.out).mono ?_); rintro e w6 ⟨rfl, hb⟩; refine ⟨_, rfl, ?_⟩; have n0_ := Aside0.mk (below_step (by repeat (first | (with_reducible first | exact HB.out | apply below_alloc | apply pw_below_drewN | apply below_drew1) | exact HB.out)) hb); clear HB; have HB := n0_; clear n0_; (try clear hb); (try clear hb2); (try clear hk); (try clear hi)))
      go_ret
      exact ⟨by first | rfl | (simp [errW_none, errW_some] <;> rfl) | (simp [*, errW_none, errW_some] <;> rfl), by repeat (first | (with_reducible first | exact HB.out | apply below_alloc | apply pw_below_drewN | apply below_drew1) | exact HB.out)⟩
    · rw [if_neg c5] at H
      have c5b0 : decide (40 < (l0.length : Int)) = false := decide_eq_false c5
      have c5b1 : decide (40 < l0.length) = false := decide_eq_false (by omega)
      clear c5
      replace H := Option.bind_eq_some_iff.mp H
      obtain ⟨⟨t159, t162⟩, A70, H⟩ := H
      replace H : ((inner_Inner_Way.f k t159 t162 a1).bind fun t166 => ((boscagelaw03_Way.f k t159 t162 a1).bind fun t167 => (some (t166 == t167)))) = some r := H
      have A7 := Aside0.mk A70
      clear A70
      replace H := Option.bind_eq_some_iff.mp H
      obtain ⟨t166, A80, H⟩ := H
      replace H : ((boscagelaw03_Way.f k t159 t162 a1).bind fun t167 => (some (t166 == t167))) = some r := H
      have A8 := Aside0.mk A80
      clear A80
      replace H := Option.bind_eq_some_iff.mp H
      obtain ⟨t167, A90, H⟩ := H
      replace H : (some (t166 == t167)) = some r := H
      have A9 := Aside0.mk A90
      clear A90
      obtain rfl := Option.some.inj H
      go_enter Try.func3, Try.ntmps3
      try go_wp2_with (first | ((with_reducible refine gate_callee (f := 38) rfl ?_); refine goesL_ (some 6) rfl rfl Try.func38 (by kernel_rfl) rfl #[] rfl (by (try simp only [List.map_toArray, List.map_cons, List.map_nil]); first | done | rfl | (simp only [List.length_drop, List.length_take]; rfl)) ?_; (with_reducible refine (boscagelaw03_Awake.calls k  true _ A3.out).mono ?_); rintro e w10 ⟨rfl, hb⟩; refine ⟨_, rfl, ?_⟩; have n0_ := Aside0.mk (below_step (by repeat (first | (with_reducible first | exact HB.out | apply below_alloc | apply pw_below_drewN | apply below_drew1) | exact HB.out)) hb); clear HB; have HB := n0_; clear n0_; (try clear hb); (try clear hb2); (try clear hk); (try clear hi)) | ((with_reducible refine gate_callee (f := 39) rfl ?_); refine goesL_ (some 12) rfl rfl Try.func39 (by kernel_rfl) rfl #[.slice A0 l0.length c0, .int .i64 1] rfl (by (try simp only [List.map_toArray, List.map_cons, List.map_nil]); first | done | rfl | (simp only [List.length_drop, List.length_take]; rfl)) ?_; (with_reducible refine (boscagelaw03_Of.calls k _ _ l0 1 t159 t162 _ ?side1 ?side2 A7.out).mono ?_); (case side1 => repeat (first | exact (Kd.C_below HR0.out HB.out) | (with_reducible refine Kd.C_alloc ?_ _) | (with_reducible refine Kd.C_drewN ?_ _) | (with_reducible refine Kd.C_drew ?_))); (case side2 => exact HC0.out); rintro e w11 ⟨v160, v163, rfl, ho0, ho1, hb⟩; refine ⟨_, rfl, ?_⟩; have n0_ := Aside0.mk (Kd.R_lower ho0 (below_size (by repeat (first | (with_reducible first | exact HB.out | apply below_alloc | apply pw_below_drewN | apply below_drew1) | exact HB.out)))); have n1_ := Aside0.mk (Kd.R_lower ho1 (below_size (by repeat (first | (with_reducible first | exact HB.out | apply below_alloc | apply pw_below_drewN | apply below_drew1) | exact HB.out)))); have n2_ := Aside0.mk (below_step (by repeat (first | (with_reducible first | exact HB.out | apply below_alloc | apply pw_below_drewN | apply below_drew1) | exact HB.out)) hb); clear HB; have HO161 := n0_; have HO164 := n1_; have HB := n2_; clear n0_ n1_ n2_; (try clear hb); (try clear hb2); (try clear hk); (try clear hi); (try clear ho0); (try clear ho1)) | ((with_reducible refine gate_dst (N := 5) rfl ?_); refine box_event ?hg (N := 5) ?hd (cs := #[.slice none 0 0, .slice none 0 0]) (t := 26) ?hr ?_; (case hd => rfl); (case hg => rfl); (case hr => first | (go_simp; done) | (go_simp; rfl)); intro gb165 hg w12 hbox hb; have n0_ := Aside0.mk (Kd.R_below (by (with_reducible repeat (first | apply Kd.R_alloc | apply Kd.R_drewN | apply Kd.R_drew)); exact HO161.out) hb); have n1_ := Aside0.mk (Kd.R_below (by (with_reducible repeat (first | apply Kd.R_alloc | apply Kd.R_drewN | apply Kd.R_drew)); exact HO164.out) hb); have n2_ := Aside0.mk (below_step (by repeat (first | (with_reducible first | exact HB.out | apply below_alloc | apply pw_below_drewN | apply below_drew1) | exact HB.out)) hb); have n3_ := Aside0.mk (hbox); have n4_ := Aside0.mk ((by rw [hg]; exact (below_size (by repeat (first | (with_reducible first | exact HB.out | apply below_alloc | apply pw_below_drewN | apply below_drew1) | exact HB.out))) : w.heap.size ≤ gb165)); have n5_ := Aside0.mk ((by rw [hg]; exact (below_size (by repeat (first | (with_reducible first | exact HB.out | apply below_alloc | apply pw_below_drewN | apply below_drew1) | exact HB.out))) : w.heap.size ≤ gb165)); clear HO161; clear HO164; clear HB; have HO161 := n0_; have HO164 := n1_; have HB := n2_; have BK165 := n3_; have GW165 := n4_; have GE165 := n5_; clear n0_ n1_ n2_ n3_ n4_ n5_; clear hb hbox hg; obtain ⟨Ao13, co13, eo13⟩ := Kd.R_slice HO161.out; subst eo13; have hcz14_0 : w12.cell? ⟨gb165, 0, none⟩ = some (.slice none 0 0) := (blk_cell BK165.out 0).trans rfl; have hcz14_1 : w12.cell? ⟨gb165, 1, none⟩ = some (.slice none 0 0) := (blk_cell BK165.out 1).trans rfl; have hfz14_0 := blk_frozen BK165.out 0; have hfz14_1 := blk_frozen BK165.out 1; obtain ⟨Ao15, co15, eo15⟩ := Kd.R_slice HO164.out; subst eo15))
      have n0_ : Aside0 (Kd.R (Kd.int .i64) 2 ((w12.setCell ⟨gb165, 0, none⟩ (.slice Ao13 t159.length co13)).setCell ⟨gb165, 1, none⟩ (.slice Ao15 t162.length co15)) w.heap.size (fun _ => True) (.slice Ao13 t159.length co13) t159) := ⟨by (with_reducible repeat (first | apply Kd.R_alloc | apply Kd.R_drewN | apply Kd.R_drew)); exact Kd.R_mono (Kd.R_far (p := ⟨gb165, 1, none⟩) (Kd.R_far (p := ⟨gb165, 0, none⟩) (Kd.R_types HO161.out BK165.out (by decide)) (fun _ hk => hk.2) (.slice Ao13 t159.length co13)) (fun _ hk => hk.2) (.slice Ao15 t162.length co15)) (fun _ hk => trivial)⟩
      have n1_ : Aside0 (Kd.R (Kd.int .i64) 47 ((w12.setCell ⟨gb165, 0, none⟩ (.slice Ao13 t159.length co13)).setCell ⟨gb165, 1, none⟩ (.slice Ao15 t162.length co15)) w.heap.size (fun _ => True) (.slice Ao15 t162.length co15) t162) := ⟨by (with_reducible repeat (first | apply Kd.R_alloc | apply Kd.R_drewN | apply Kd.R_drew)); exact Kd.R_mono (Kd.R_far (p := ⟨gb165, 1, none⟩) (Kd.R_far (p := ⟨gb165, 0, none⟩) (Kd.R_types HO164.out BK165.out (by decide)) (fun _ hk => hk.2) (.slice Ao13 t159.length co13)) (fun _ hk => hk.2) (.slice Ao15 t162.length co15)) (fun _ hk => trivial)⟩
      have n2_ : Aside0 (((w12.setCell ⟨gb165, 0, none⟩ (.slice Ao13 t159.length co13)).setCell ⟨gb165, 1, none⟩ (.slice Ao15 t162.length co15)).heap[gb165]? = some (.cells #[.slice Ao13 t159.length co13, .slice Ao15 t162.length co15] 26 (0, 0))) := ⟨by (with_reducible repeat (first | refine blk_drewN ?_ _ | refine blk_drew ?_ | refine blk_alloc ?_ _)); refine blk_put (cs := #[.slice Ao13 t159.length co13, .slice none 0 0]) ?_ 1 _ rfl; (with_reducible repeat (first | refine blk_drewN ?_ _ | refine blk_drew ?_ | refine blk_alloc ?_ _)); refine blk_put (cs := #[.slice none 0 0, .slice none 0 0]) ?_ 0 _ rfl; (with_reducible repeat (first | refine blk_drewN ?_ _ | refine blk_drew ?_ | refine blk_alloc ?_ _)); exact BK165.out⟩
      have n3_ : Aside0 (Below w.heap.size w ((w12.setCell ⟨gb165, 0, none⟩ (.slice Ao13 t159.length co13)).setCell ⟨gb165, 1, none⟩ (.slice Ao15 t162.length co15))) := ⟨by repeat (first | (with_reducible first | exact HB.out | apply below_alloc | apply pw_below_drewN | apply below_drew1 | refine below_set ?_ GE165.out) | exact HB.out)⟩
      (try clear HO161)
      (try clear HO164)
      (try clear BK165)
      (try clear HB)
      generalize ((w12.setCell ⟨gb165, 0, none⟩ (.slice Ao13 t159.length co13)).setCell ⟨gb165, 1, none⟩ (.slice Ao15 t162.length co15)) = w16 at n0_ n1_ n2_ n3_ ⊢
      have HO161 := n0_
      have HO164 := n1_
      have BK165 := n2_
      have HB := n3_
      clear n0_ n1_ n2_ n3_
      have n0_ := Aside0.mk (Kd.R_drew HO161.out)
      have n1_ := Aside0.mk (Kd.R_drew HO164.out)
      have n2_ := Aside0.mk (blk_drew BK165.out)
      have n3_ := Aside0.mk (below_drew1 HB.out)
      clear HO161
      clear HO164
      clear BK165
      clear HB
      have HO161 := n0_
      have HO164 := n1_
      have BK165 := n2_
      have HB := n3_
      clear n0_ n1_ n2_ n3_
      refine start_ (n := 8) (S := fun w' => w'.cell? ⟨gb165, 0, none⟩ = some (.slice Ao13 t159.length co13) ∧ w'.cell? ⟨gb165, 1, none⟩ = some (.slice Ao15 t162.length co15)) (ds := []) #[false, false, false, false, false, false, false, false] (by kernel_rfl) rfl rfl ⟨(blk_cell BK165.out 0).trans rfl, (blk_cell BK165.out 1).trans rfl⟩ (fun hHeld => ?_); refine with_tabW boscagelaw03_InnerWays.tab6 boscagelaw03_InnerWays.bits6 (fun HT_ HW_ => ?_)
      generalize w16.drew = w17 at HO161 HO164 BK165 HB hHeld ⊢
      refine pure_ (i := 1) (N := some 14) (v := ?_) (a' := ?_) #[false, true, false, false, false, false, false, false] rfl rfl (any_of HT_.out (by kernel_rfl)) (fun _ _ _ h => h) (Or.inl ⟨by rfl, ?_⟩) ?_ ?_
      rotate_left
      · intro w'
        go_simp
        with_reducible rfl
      rotate_left
      · simp only [Act.put, List.setIfInBounds_toArray, List.set_cons_zero, List.set_cons_succ, i64_w, i32_w]
        rfl
      refine pure_ (i := 4) (N := some 17) (v := ?_) (a' := ?_) #[false, true, false, false, true, false, false, false] rfl rfl (any_of HT_.out (by kernel_rfl)) (fun _ _ _ h => h) (Or.inl ⟨by rfl, ?_⟩) ?_ ?_
      rotate_left
      · intro w'
        go_simp
        with_reducible rfl
      rotate_left
      · simp only [Act.put, List.setIfInBounds_toArray, List.set_cons_zero, List.set_cons_succ, i64_w, i32_w]
        rfl
      refine take_ (i := 0) (N := some 13) (v := ?_) (a' := ?_) #[true, true, false, false, true, false, false, false] rfl rfl (take_ofW HT_.out HW_.out (by kernel_rfl)) (fun _ _ _ h => h) (Or.inl ⟨by rfl, ?_⟩) hHeld ?_ ?_
      rotate_left
      · rintro w' ⟨s0, s1⟩
        go_simp
        with_reducible rfl
      rotate_left
      · simp only [Act.put, List.setIfInBounds_toArray, List.set_cons_zero, List.set_cons_succ, i64_w, i32_w]
        rfl
      refine take_ (i := 3) (N := some 16) (v := ?_) (a' := ?_) #[true, true, false, true, true, false, false, false] rfl rfl (take_ofW HT_.out HW_.out (by kernel_rfl)) (fun _ _ _ h => h) (Or.inl ⟨by rfl, ?_⟩) hHeld ?_ ?_
      rotate_left
      · rintro w' ⟨s0, s1⟩
        go_simp
        with_reducible rfl
      rotate_left
      · simp only [Act.put, List.setIfInBounds_toArray, List.set_cons_zero, List.set_cons_succ, i64_w, i32_w]
        rfl
      refine one_ (i := 2) (N := some 15) #[true, true, true, true, true, false, false, false] rfl rfl (one_of HT_.out (by kernel_rfl)) (by decide) (fun K hK => ?_)
      refine goes_ Try.func40 (by kernel_rfl) rfl #[.agg #[.slice Ao13 t159.length co13, .slice Ao15 t162.length co15], .int .i64 a1] (by rfl) rfl rfl (by (try simp only [List.map_toArray, List.map_cons, List.map_nil]); first | done | rfl | (simp only [List.length_drop, List.length_take]; rfl)) ?_
      with_reducible refine (inner_Inner_Way.calls k _ _ t159 _ _ t162 a1 t166 _ ?side1 ?side2 ?side3 ?side4 A8.out).mono ?_
      (case side1 => repeat (first | exact (Kd.R_reads' HO161.out).2.2 | (with_reducible refine Kd.C_alloc ?_ _) | (with_reducible refine Kd.C_drewN ?_ _) | (with_reducible refine Kd.C_drew ?_)))
      (case side2 => exact (Kd.R_reads' HO161.out).2.1)
      (case side3 => repeat (first | exact (Kd.R_reads' HO164.out).2.2 | (with_reducible refine Kd.C_alloc ?_ _) | (with_reducible refine Kd.C_drewN ?_ _) | (with_reducible refine Kd.C_drew ?_)))
      (case side4 => exact (Kd.R_reads' HO164.out).2.1)
      rintro e w18 ⟨rfl, hb⟩
      refine ⟨_, rfl, ?_⟩
      have n0_ := Aside0.mk (Kd.R_below (by (with_reducible repeat (first | apply Kd.R_alloc | apply Kd.R_drewN | apply Kd.R_drew)); exact HO161.out) hb)
      have n1_ := Aside0.mk (Kd.R_below (by (with_reducible repeat (first | apply Kd.R_alloc | apply Kd.R_drewN | apply Kd.R_drew)); exact HO164.out) hb)
      have n2_ := Aside0.mk (blk_below (g := gb165) (o := .cells #[.slice Ao13 t159.length co13, .slice Ao15 t162.length co15] 26 (0, 0)) (by (with_reducible repeat (first | refine blk_drewN ?_ _ | refine blk_drew ?_ | refine blk_alloc ?_ _)); exact BK165.out) hb)
      have n3_ := Aside0.mk (below_step (by repeat (first | (with_reducible first | exact HB.out | apply below_alloc | apply pw_below_drewN | apply below_drew1 | refine below_set ?_ GE165.out) | exact HB.out)) hb)
      clear HO161
      clear HO164
      clear BK165
      clear HB
      have HO161 := n0_
      have HO164 := n1_
      have BK165 := n2_
      have HB := n3_
      clear n0_ n1_ n2_ n3_
      (try clear hb)
      (try clear hb2)
      (try clear hk)
      (try clear hi)
      refine hK.out _ _ ⟨(blk_cell BK165.out 0).trans rfl, (blk_cell BK165.out 1).trans rfl⟩ (fun hHeld => ?_)
      clear hK K
      refine norm_ (a' := ?_) ?_ ?_
      rotate_left
      · show Act.put _ (some 15) _ = _
        simp only [Act.put, List.setIfInBounds_toArray, List.set_cons_zero, List.set_cons_succ, i64_w, i32_w]
        rfl
      refine one_ (i := 5) (N := some 18) #[true, true, true, true, true, true, false, false] rfl rfl (one_of HT_.out (by kernel_rfl)) (by decide) (fun K hK => ?_)
      refine goes_ Try.func41 (by kernel_rfl) rfl #[.agg #[.slice Ao13 t159.length co13, .slice Ao15 t162.length co15], .int .i64 a1] (by rfl) rfl rfl (by (try simp only [List.map_toArray, List.map_cons, List.map_nil]); first | done | rfl | (simp only [List.length_drop, List.length_take]; rfl)) ?_
      with_reducible refine (boscagelaw03_Way.calls k _ _ t159 _ _ t162 a1 t167 _ ?side1 ?side2 ?side3 ?side4 A9.out).mono ?_
      (case side1 => repeat (first | exact (Kd.R_reads' HO161.out).2.2 | (with_reducible refine Kd.C_alloc ?_ _) | (with_reducible refine Kd.C_drewN ?_ _) | (with_reducible refine Kd.C_drew ?_)))
      (case side2 => exact (Kd.R_reads' HO161.out).2.1)
      (case side3 => repeat (first | exact (Kd.R_reads' HO164.out).2.2 | (with_reducible refine Kd.C_alloc ?_ _) | (with_reducible refine Kd.C_drewN ?_ _) | (with_reducible refine Kd.C_drew ?_)))
      (case side4 => exact (Kd.R_reads' HO164.out).2.1)
      rintro e w19 ⟨rfl, hb⟩
      refine ⟨_, rfl, ?_⟩
      have n0_ := Aside0.mk (Kd.R_below (by (with_reducible repeat (first | apply Kd.R_alloc | apply Kd.R_drewN | apply Kd.R_drew)); exact HO161.out) hb)
      have n1_ := Aside0.mk (Kd.R_below (by (with_reducible repeat (first | apply Kd.R_alloc | apply Kd.R_drewN | apply Kd.R_drew)); exact HO164.out) hb)
      have n2_ := Aside0.mk (blk_below (g := gb165) (o := .cells #[.slice Ao13 t159.length co13, .slice Ao15 t162.length co15] 26 (0, 0)) (by (with_reducible repeat (first | refine blk_drewN ?_ _ | refine blk_drew ?_ | refine blk_alloc ?_ _)); exact BK165.out) hb)
      have n3_ := Aside0.mk (below_step (by repeat (first | (with_reducible first | exact HB.out | apply below_alloc | apply pw_below_drewN | apply below_drew1 | refine below_set ?_ GE165.out) | exact HB.out)) hb)
      clear HO161
      clear HO164
      clear BK165
      clear HB
      have HO161 := n0_
      have HO164 := n1_
      have BK165 := n2_
      have HB := n3_
      clear n0_ n1_ n2_ n3_
      (try clear hb)
      (try clear hb2)
      (try clear hk)
      (try clear hi)
      refine hK.out _ _ ⟨(blk_cell BK165.out 0).trans rfl, (blk_cell BK165.out 1).trans rfl⟩ (fun hHeld => ?_)
      clear hK K
      refine norm_ (a' := ?_) ?_ ?_
      rotate_left
      · show Act.put _ (some 18) _ = _
        simp only [Act.put, List.setIfInBounds_toArray, List.set_cons_zero, List.set_cons_succ, i64_w, i32_w]
        rfl
      refine pure_ (i := 6) (N := some 19) (v := ?_) (a' := ?_) #[true, true, true, true, true, true, true, false] rfl rfl (any_of HT_.out (by kernel_rfl)) (fun _ _ _ h => h) (Or.inl ⟨by rfl, ?_⟩) ?_ ?_
      rotate_left
      · intro w'
        go_simp
        with_reducible rfl
      rotate_left
      · simp only [Act.put, List.setIfInBounds_toArray, List.set_cons_zero, List.set_cons_succ, i64_w, i32_w]
        rfl
      refine pure_ (i := 7) (N := some 4) (v := ?_) (a' := ?_) #[true, true, true, true, true, true, true, true] rfl rfl (any_of HT_.out (by kernel_rfl)) (fun _ _ _ h => h) (Or.inl ⟨by rfl, ?_⟩) ?_ ?_
      rotate_left
      · intro w'
        go_simp
        with_reducible rfl
      rotate_left
      · simp only [Act.put, List.setIfInBounds_toArray, List.set_cons_zero, List.set_cons_succ, i64_w, i32_w]
        rfl
      refine done_ (done_of HT_.out (by kernel_rfl)) ?_
      try go_wp2
      go_ret
      exact ⟨by first | rfl | (simp [errW_none, errW_some] <;> rfl) | (simp [*, errW_none, errW_some] <;> rfl), by repeat (first | (with_reducible first | exact HB.out | apply below_alloc | apply pw_below_drewN | apply below_drew1 | refine below_set ?_ GE165.out) | exact HB.out)⟩
  · replace c4 := Bool.eq_false_iff.mpr c4
    subst c4
    have H1 : (some false) = some r := by rw [if_neg (show ¬ (false = true) by decide)] at H; exact H
    clear H
    have H := H1
    clear H1
    obtain rfl := Option.some.inj H
    go_enter Try.func3, Try.ntmps3
    go_wp2_with (first | ((with_reducible refine gate_callee (f := 38) rfl ?_); refine goesL_ (some 6) rfl rfl Try.func38 (by kernel_rfl) rfl #[] rfl (by (try simp only [List.map_toArray, List.map_cons, List.map_nil]); first | done | rfl | (simp only [List.length_drop, List.length_take]; rfl)) ?_; (with_reducible refine (boscagelaw03_Awake.calls k  false _ A3.out).mono ?_); rintro e w20 ⟨rfl, hb⟩; refine ⟨_, rfl, ?_⟩; have n0_ := Aside0.mk (below_step (by repeat (first | (with_reducible first | exact HB.out | apply below_alloc | apply pw_below_drewN | apply below_drew1) | exact HB.out)) hb); clear HB; have HB := n0_; clear n0_; (try clear hb); (try clear hb2); (try clear hk); (try clear hi)))
    go_ret
    exact ⟨by first | rfl | (simp [errW_none, errW_some] <;> rfl) | (simp [*, errW_none, errW_some] <;> rfl), by repeat (first | (with_reducible first | exact HB.out | apply below_alloc | apply pw_below_drewN | apply below_drew1) | exact HB.out)⟩

/-- THE ONE PURE STATEMENT of boscagelaw03_InnerWays: yours. -/
def boscagelaw03_InnerWays.Pure : Prop := ∀ (l0 : List Int) (a1 : Int), l0.length ≤ maxLen → l0.length * 8 ≤ 140737488351232 → (∀ x ∈ l0, (Lit.int .i64 x).wf = true) → (Lit.int .i64 a1).wf = true → ∃ k, boscagelaw03_InnerWays.f k l0 a1 = some true
theorem boscagelaw03_InnerWays.walk (P : boscagelaw03_InnerWays.Pure) (a0 : Option Addr) (len0 cap0 : Nat) (z0 : List Int) (a1 : Int) (w : World) (w0 : (a0 = none ∧ len0 = 0 ∧ cap0 = 0 ∧ z0 = []) ∨ ∃ x, a0 = some x ∧ len0 ≤ cap0 ∧ cap0 ≤ maxLen ∧ z0.length = cap0 ∧ (∀ i, i < z0.length → w.cell? (x.add i) = some (.int .i64 (z0.getD i 0))) ∧ ∀ n ∈ z0, (Lit.int .i64 n).wf = true) (y0 : len0 * 8 ≤ 140737488351232) (w1 : (Lit.int .i64 a1).wf = true) :
    Calls Try.prog 3 #[.slice a0 len0 cap0, .int .i64 a1] w fun e w' => e = .returned (.bool true) ∧ Below w.heap.size w w' := by
  obtain ⟨l0, rfl, hr0, hm0, hw0, hc0⟩ := ReadsInt.ofRowC w0
  obtain ⟨k, h⟩ := P l0 a1 hm0 y0 hw0 w1
  refine (boscagelaw03_InnerWays.calls k _ _ l0 a1 true w (Kd.C_of_reads (d := (0 : Int)) (h1 := fun _ => rfl) hr0) hc0 h).mono ?_
  rintro e w' ⟨rfl, hd⟩
  exact ⟨rfl, hd⟩

end Go.Proofs.Ytkoiffkonjpoiaa.Q
