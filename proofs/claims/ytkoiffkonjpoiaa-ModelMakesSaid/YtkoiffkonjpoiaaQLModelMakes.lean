/- Go functions of the program as plain Lean functions, and for each the contract that the call comes to its answers; written by a turned print of this session. -/
import Derived.Test.YtkoiffkonjpoiaaQ0
import Derived.Test.YtkoiffkonjpoiaaQC10
import Derived.Test.YtkoiffkonjpoiaaQC12
import Derived.Test.YtkoiffkonjpoiaaQC4
import Derived.Test.YtkoiffkonjpoiaaQE1
namespace Go.Proofs.Ytkoiffkonjpoiaa.Q
open Go.RowKit Go.Proofs.YtkoiffkonjpoiaaW.PrintWords Go.Proofs.YtkoiffkonjpoiaaW.PrintLast Go.Proofs.YtkoiffkonjpoiaaW.PrintMore Go.Proofs.YtkoiffkonjpoiaaX
attribute [local go_sem] max2_int min2_int max_two min_two max_three min_three max_four min_four   -- for this text's walks alone
set_option linter.unusedVariables false
set_option linter.unusedSimpArgs false

attribute [local go_sem high] eqA78
/-! ### boscagelaw18_ModelMakes: function 29 -/
mutual
def boscagelaw18_ModelMakes.j0 : Nat → List Int → Int → Int → Int → Int → Int → Int → Int → Int → Int → Option (Bool)
  | 0, _, _, _, _, _, _, _, _, _, _ => none
  | k + 1, x1, x5, x1245000, x1245001, x1245002, x1245003, x1247000, x1247001, x1247002, x1247003 => if (x1.length : Int) > 1 then (if x5 = 1 then (boscagelaw18_ModelMakes.j1 k x1 true x1245000 x1245001 x1245002 x1245003 x1247000 x1247001 x1247002 x1247003) else (boscagelaw18_ModelMakes.j1 k x1 (x5 == 2) x1245000 x1245001 x1245002 x1245003 x1247000 x1247001 x1247002 x1247003)) else (boscagelaw18_ModelMakes.j1 k x1 false x1245000 x1245001 x1245002 x1245003 x1247000 x1247001 x1247002 x1247003)
def boscagelaw18_ModelMakes.j1 : Nat → List Int → Bool → Int → Int → Int → Int → Int → Int → Int → Int → Option (Bool)
  | 0, _, _, _, _, _, _, _, _, _, _ => none
  | k + 1, x1, x52, x1245000, x1245001, x1245002, x1245003, x1247000, x1247001, x1247002, x1247003 => if x52 = true then (if 1 < (x1.length : Int) then (some (x1245000 == x1247000 && (x1245001 == x1247001 && (x1245002 == x1247002 && (x1245003 == (rd x1 1)))))) else (none)) else (if (x1.length : Int) > 1 then (if 1 < (x1.length : Int) then (some (x1245000 == x1247000 && (x1245001 == x1247001 && (x1245002 == (rd x1 1) && (x1245003 == x1247003))))) else (none)) else (some (x1245000 == x1247000 && (x1245001 == x1247001 && (x1245002 == x1247002 && (x1245003 == x1247003))))))
end
def boscagelaw18_ModelMakes.f (k : Nat) (a0 : Int) (l1 : List Int) : Option (Bool) := (boscagelaw18_Awake.f k).bind fun t1238 => (if t1238 = true then (if (l1.length : Int) > 20 then (some true) else ((model_Make.f k a0 l1).bind fun bt1239 => ((boscagelaw18_Many.f k a0).bind fun t1245 => (if (bt1239.2.2.2.2 != (t1245 == (l1.length : Int))) = true then (some false) else (if bt1239.2.2.2.2 = true then (if (l1.length : Int) > 0 then (if 0 < (l1.length : Int) then (boscagelaw18_ModelMakes.j0 k l1 a0 bt1239.1 bt1239.2.1 bt1239.2.2.1 bt1239.2.2.2.1 a0 (rd l1 0) 0 0) else (none)) else (boscagelaw18_ModelMakes.j0 k l1 a0 bt1239.1 bt1239.2.1 bt1239.2.2.1 bt1239.2.2.2.1 a0 0 0 0)) else (some (bt1239.1 == 0 && (bt1239.2.1 == 0 && (bt1239.2.2.1 == 0 && (bt1239.2.2.2.1 == 0)))))))))) else (some false))
theorem boscagelaw18_ModelMakes.mono_l : ∀ k, (∀ y0 y1 y2 y3 y4 y5 y6 y7 y8 y9, LeO (boscagelaw18_ModelMakes.j0 k y0 y1 y2 y3 y4 y5 y6 y7 y8 y9) (boscagelaw18_ModelMakes.j0 (k + 1) y0 y1 y2 y3 y4 y5 y6 y7 y8 y9)) ∧ (∀ y0 y1 y2 y3 y4 y5 y6 y7 y8 y9, LeO (boscagelaw18_ModelMakes.j1 k y0 y1 y2 y3 y4 y5 y6 y7 y8 y9) (boscagelaw18_ModelMakes.j1 (k + 1) y0 y1 y2 y3 y4 y5 y6 y7 y8 y9))
  | 0 => ⟨fun _ _ _ _ _ _ _ _ _ _ r h => by simp [boscagelaw18_ModelMakes.j0] at h, fun _ _ _ _ _ _ _ _ _ _ r h => by simp [boscagelaw18_ModelMakes.j1] at h⟩
  | k + 1 => by
    obtain ⟨ih0, ih1⟩ := boscagelaw18_ModelMakes.mono_l k
    refine ⟨?_, ?_⟩
    · intro y0 y1 y2 y3 y4 y5 y6 y7 y8 y9
      unfold boscagelaw18_ModelMakes.j0
      repeat' first
      | (with_reducible exact ih0 _ _ _ _ _ _ _ _ _ _)
      | (with_reducible exact ih1 _ _ _ _ _ _ _ _ _ _)
      | (with_reducible exact boscagelaw18_Awake.mono _)
      | (with_reducible exact boscagelaw18_Many.mono _ _)
      | (with_reducible exact model_Make.mono _ _ _)
      | (with_reducible exact LeO.refl _)
      | (with_reducible exact LeO.none _)
      | (with_reducible refine LeO.ite ?_ ?_)
      | (with_reducible refine LeO.bind ?_ (fun _ => ?_))
      | exact ih0 _ _ _ _ _ _ _ _ _ _
      | exact ih1 _ _ _ _ _ _ _ _ _ _
      | exact boscagelaw18_Awake.mono _
      | exact boscagelaw18_Many.mono _ _
      | exact model_Make.mono _ _ _
      | exact LeO.none _
      | refine LeO.ite ?_ ?_
      | refine LeO.bind ?_ (fun _ => ?_)
    · intro y0 y1 y2 y3 y4 y5 y6 y7 y8 y9
      unfold boscagelaw18_ModelMakes.j1
      repeat' first
      | (with_reducible exact ih0 _ _ _ _ _ _ _ _ _ _)
      | (with_reducible exact ih1 _ _ _ _ _ _ _ _ _ _)
      | (with_reducible exact boscagelaw18_Awake.mono _)
      | (with_reducible exact boscagelaw18_Many.mono _ _)
      | (with_reducible exact model_Make.mono _ _ _)
      | (with_reducible exact LeO.refl _)
      | (with_reducible exact LeO.none _)
      | (with_reducible refine LeO.ite ?_ ?_)
      | (with_reducible refine LeO.bind ?_ (fun _ => ?_))
      | exact ih0 _ _ _ _ _ _ _ _ _ _
      | exact ih1 _ _ _ _ _ _ _ _ _ _
      | exact boscagelaw18_Awake.mono _
      | exact boscagelaw18_Many.mono _ _
      | exact model_Make.mono _ _ _
      | exact LeO.none _
      | refine LeO.ite ?_ ?_
      | refine LeO.bind ?_ (fun _ => ?_)
theorem boscagelaw18_ModelMakes.mono : ∀ a0 a1 k, LeO (boscagelaw18_ModelMakes.f k a0 a1) (boscagelaw18_ModelMakes.f (k + 1) a0 a1) := by
  intro a0 a1 k
  obtain ⟨ih0, ih1⟩ := boscagelaw18_ModelMakes.mono_l k
  unfold boscagelaw18_ModelMakes.f
  repeat' first
      | (with_reducible exact ih0 _ _ _ _ _ _ _ _ _ _)
      | (with_reducible exact ih1 _ _ _ _ _ _ _ _ _ _)
      | (with_reducible exact boscagelaw18_Awake.mono _)
      | (with_reducible exact boscagelaw18_Many.mono _ _)
      | (with_reducible exact model_Make.mono _ _ _)
      | (with_reducible exact LeO.refl _)
      | (with_reducible exact LeO.none _)
      | (with_reducible refine LeO.ite ?_ ?_)
      | (with_reducible refine LeO.bind ?_ (fun _ => ?_))
      | exact ih0 _ _ _ _ _ _ _ _ _ _
      | exact ih1 _ _ _ _ _ _ _ _ _ _
      | exact boscagelaw18_Awake.mono _
      | exact boscagelaw18_Many.mono _ _
      | exact model_Make.mono _ _ _
      | exact LeO.none _
      | refine LeO.ite ?_ ?_
      | refine LeO.bind ?_ (fun _ => ?_)
set_option maxHeartbeats 8000000 in
set_option maxRecDepth 100000 in
theorem boscagelaw18_ModelMakes.calls (k : Nat) (a0 : Int) (A1 : Option Addr) (c1 : Nat) (l1 : List Int) (r : Bool) (w : World) (hr1 : Kd.C (Kd.int .i64) w A1 l1.length l1) (hc1 : l1.length ≤ c1) (h : boscagelaw18_ModelMakes.f k a0 l1 = some r) :
    Calls Try.prog 29 #[.int .u8 a0, .slice A1 l1.length c1] w fun e w' => e = .returned (.bool r) ∧ Below w.heap.size w w' := by
  have hu78 := Try.underlying78
  have HR1 := Aside0.mk hr1
  have HC1 := Aside0.mk hc1
  clear hr1 hc1
  have HB := Aside0.mk (Below.refl w.heap.size w)
  have H : ((boscagelaw18_Awake.f k).bind fun t1238 => (if t1238 = true then (if (l1.length : Int) > 20 then (some true) else ((model_Make.f k a0 l1).bind fun bt1239 => ((boscagelaw18_Many.f k a0).bind fun t1245 => (if (bt1239.2.2.2.2 != (t1245 == (l1.length : Int))) = true then (some false) else (if bt1239.2.2.2.2 = true then (if (l1.length : Int) > 0 then (if 0 < (l1.length : Int) then (boscagelaw18_ModelMakes.j0 k l1 a0 bt1239.1 bt1239.2.1 bt1239.2.2.1 bt1239.2.2.2.1 a0 (rd l1 0) 0 0) else (none)) else (boscagelaw18_ModelMakes.j0 k l1 a0 bt1239.1 bt1239.2.1 bt1239.2.2.1 bt1239.2.2.2.1 a0 0 0 0)) else (some (bt1239.1 == 0 && (bt1239.2.1 == 0 && (bt1239.2.2.1 == 0 && (bt1239.2.2.2.1 == 0)))))))))) else (some false))) = some r := h
  clear h
  replace H := Option.bind_eq_some_iff.mp H
  obtain ⟨t1238, A30, H⟩ := H
  replace H : (if t1238 = true then (if (l1.length : Int) > 20 then (some true) else ((model_Make.f k a0 l1).bind fun bt1239 => ((boscagelaw18_Many.f k a0).bind fun t1245 => (if (bt1239.2.2.2.2 != (t1245 == (l1.length : Int))) = true then (some false) else (if bt1239.2.2.2.2 = true then (if (l1.length : Int) > 0 then (if 0 < (l1.length : Int) then (boscagelaw18_ModelMakes.j0 k l1 a0 bt1239.1 bt1239.2.1 bt1239.2.2.1 bt1239.2.2.2.1 a0 (rd l1 0) 0 0) else (none)) else (boscagelaw18_ModelMakes.j0 k l1 a0 bt1239.1 bt1239.2.1 bt1239.2.2.1 bt1239.2.2.2.1 a0 0 0 0)) else (some (bt1239.1 == 0 && (bt1239.2.1 == 0 && (bt1239.2.2.1 == 0 && (bt1239.2.2.2.1 == 0)))))))))) else (some false)) = some r := H
  have A3 := Aside0.mk A30
  clear A30
  by_cases c4 : t1238 = true
  · subst c4
    have H1 : (if (l1.length : Int) > 20 then (some true) else ((model_Make.f k a0 l1).bind fun bt1239 => ((boscagelaw18_Many.f k a0).bind fun t1245 => (if (bt1239.2.2.2.2 != (t1245 == (l1.length : Int))) = true then (some false) else (if bt1239.2.2.2.2 = true then (if (l1.length : Int) > 0 then (if 0 < (l1.length : Int) then (boscagelaw18_ModelMakes.j0 k l1 a0 bt1239.1 bt1239.2.1 bt1239.2.2.1 bt1239.2.2.2.1 a0 (rd l1 0) 0 0) else (none)) else (boscagelaw18_ModelMakes.j0 k l1 a0 bt1239.1 bt1239.2.1 bt1239.2.2.1 bt1239.2.2.2.1 a0 0 0 0)) else (some (bt1239.1 == 0 && (bt1239.2.1 == 0 && (bt1239.2.2.1 == 0 && (bt1239.2.2.2.1 == 0)))))))))) = some r := by rw [if_pos rfl] at H; exact H
    clear H
    have H := H1
    clear H1
    by_cases c5 : (l1.length : Int) > 20
    · rw [if_pos c5] at H
      have c5b0 : decide (20 < (l1.length : Int)) = true := decide_eq_true c5
      have c5b1 : decide (20 < l1.length) = true := decide_eq_true (by omega)
      clear c5
      obtain rfl := Option.some.inj H
      go_enter Try.func29, Try.ntmps29
      go_wp2_with (first | ((with_reducible refine gate_callee (f := 70) rfl ?_); refine goesL_ (some 9) rfl rfl Try.func70 (by kernel_rfl) rfl #[] rfl (by (try simp only [List.map_toArray, List.map_cons, List.map_nil]); first | done | rfl | (simp only [List.length_drop, List.length_take]; rfl)) ?_; (with_reducible refine (boscagelaw18_Awake.calls k  true _ A3.out).mono ?_); rintro e w6 ⟨rfl, hb⟩; refine ⟨_, rfl, ?_⟩; have n0_ := Aside0.mk (below_step (by repeat (first | (with_reducible first | exact HB.out | apply below_alloc | apply pw_below_drewN | apply below_drew1) | exact HB.out)) hb); clear HB; have HB := n0_; clear n0_; (try clear hb); (try clear hb2); (try clear hk); (try clear hi)))
      go_ret
      exact ⟨by first | rfl | (simp [errW_none, errW_some] <;> rfl) | (simp [*, errW_none, errW_some] <;> rfl), by repeat (first | (with_reducible first | exact HB.out | apply below_alloc | apply pw_below_drewN | apply below_drew1) | exact HB.out)⟩
    · rw [if_neg c5] at H
      have c5b0 : decide (20 < (l1.length : Int)) = false := decide_eq_false c5
      have c5b1 : decide (20 < l1.length) = false := decide_eq_false (by omega)
      clear c5
      replace H := Option.bind_eq_some_iff.mp H
      obtain ⟨⟨t1239, t1240, t1241, t1242, t1243⟩, A70, H⟩ := H
      replace H : ((boscagelaw18_Many.f k a0).bind fun t1245 => (if (t1243 != (t1245 == (l1.length : Int))) = true then (some false) else (if t1243 = true then (if (l1.length : Int) > 0 then (if 0 < (l1.length : Int) then (boscagelaw18_ModelMakes.j0 k l1 a0 t1239 t1240 t1241 t1242 a0 (rd l1 0) 0 0) else (none)) else (boscagelaw18_ModelMakes.j0 k l1 a0 t1239 t1240 t1241 t1242 a0 0 0 0)) else (some (t1239 == 0 && (t1240 == 0 && (t1241 == 0 && (t1242 == 0)))))))) = some r := H
      have A7 := Aside0.mk A70
      clear A70
      replace H := Option.bind_eq_some_iff.mp H
      obtain ⟨t1245, A80, H⟩ := H
      replace H : (if (t1243 != (t1245 == (l1.length : Int))) = true then (some false) else (if t1243 = true then (if (l1.length : Int) > 0 then (if 0 < (l1.length : Int) then (boscagelaw18_ModelMakes.j0 k l1 a0 t1239 t1240 t1241 t1242 a0 (rd l1 0) 0 0) else (none)) else (boscagelaw18_ModelMakes.j0 k l1 a0 t1239 t1240 t1241 t1242 a0 0 0 0)) else (some (t1239 == 0 && (t1240 == 0 && (t1241 == 0 && (t1242 == 0))))))) = some r := H
      have A8 := Aside0.mk A80
      clear A80
      by_cases c9 : (t1243 != (t1245 == (l1.length : Int))) = true
      · rw [if_pos c9] at H
        have c9b0 : (t1243 != (t1245 == (l1.length : Int))) = true := c9
        (try (have c9b1 : decide (t1243 = (t1245 == (l1.length : Int))) = false := by simpa using c9))
        (try (have c9b2 : (t1243 == (t1245 == (l1.length : Int))) = false := by simpa using c9))
        (try (have c9b3 : ¬ (t1243 = (t1245 == (l1.length : Int))) := by simpa using c9))
        clear c9
        obtain rfl := Option.some.inj H
        go_enter Try.func29, Try.ntmps29
        go_wp2_with (first | ((with_reducible refine gate_callee (f := 70) rfl ?_); refine goesL_ (some 9) rfl rfl Try.func70 (by kernel_rfl) rfl #[] rfl (by (try simp only [List.map_toArray, List.map_cons, List.map_nil]); first | done | rfl | (simp only [List.length_drop, List.length_take]; rfl)) ?_; (with_reducible refine (boscagelaw18_Awake.calls k  true _ A3.out).mono ?_); rintro e w10 ⟨rfl, hb⟩; refine ⟨_, rfl, ?_⟩; have n0_ := Aside0.mk (below_step (by repeat (first | (with_reducible first | exact HB.out | apply below_alloc | apply pw_below_drewN | apply below_drew1) | exact HB.out)) hb); clear HB; have HB := n0_; clear n0_; (try clear hb); (try clear hb2); (try clear hk); (try clear hi)) | ((with_reducible refine gate_callee (f := 83) rfl ?_); refine goesL_ (some 18) rfl rfl Try.func83 (by kernel_rfl) rfl #[.int .u8 a0, .slice A1 l1.length c1] rfl (by (try simp only [List.map_toArray, List.map_cons, List.map_nil]); first | done | rfl | (simp only [List.length_drop, List.length_take]; rfl)) ?_; (with_reducible refine (model_Make.calls k a0 _ _ l1 t1239 t1240 t1241 t1242 t1243 _ ?side1 ?side2 A7.out).mono ?_); (case side1 => repeat (first | exact (Kd.C_below HR1.out HB.out) | (with_reducible refine Kd.C_alloc ?_ _) | (with_reducible refine Kd.C_drewN ?_ _) | (with_reducible refine Kd.C_drew ?_))); (case side2 => exact HC1.out); rintro e w11 ⟨rfl, hb⟩; refine ⟨_, rfl, ?_⟩; have n0_ := Aside0.mk (below_step (by repeat (first | (with_reducible first | exact HB.out | apply below_alloc | apply pw_below_drewN | apply below_drew1) | exact HB.out)) hb); clear HB; have HB := n0_; clear n0_; (try clear hb); (try clear hb2); (try clear hk); (try clear hi)) | ((with_reducible refine gate_dst (N := 6) rfl ?_); refine box_event ?hg (N := 6) ?hd (cs := #[.int .u8 0, .int .i64 0, .int .i64 0, .int .i64 0]) (t := 78) ?hr ?_; (case hd => rfl); (case hg => rfl); (case hr => first | (go_simp; done) | (go_simp; rfl)); intro gb1244 hg w12 hbox hb; have n0_ := Aside0.mk (below_step (by repeat (first | (with_reducible first | exact HB.out | apply below_alloc | apply pw_below_drewN | apply below_drew1) | exact HB.out)) hb); have n1_ := Aside0.mk (hbox); have n2_ := Aside0.mk ((by rw [hg]; exact (below_size (by repeat (first | (with_reducible first | exact HB.out | apply below_alloc | apply pw_below_drewN | apply below_drew1) | exact HB.out))) : w.heap.size ≤ gb1244)); have n3_ := Aside0.mk ((by rw [hg]; exact (below_size (by repeat (first | (with_reducible first | exact HB.out | apply below_alloc | apply pw_below_drewN | apply below_drew1) | exact HB.out))) : w.heap.size ≤ gb1244)); clear HB; have HB := n0_; have BK1244 := n1_; have GW1244 := n2_; have GE1244 := n3_; clear n0_ n1_ n2_ n3_; clear hb hbox hg; have hcz13_0 : w12.cell? ⟨gb1244, 0, none⟩ = some (.int .u8 0) := (blk_cell BK1244.out 0).trans rfl; have hcz13_1 : w12.cell? ⟨gb1244, 1, none⟩ = some (.int .i64 0) := (blk_cell BK1244.out 1).trans rfl; have hcz13_2 : w12.cell? ⟨gb1244, 2, none⟩ = some (.int .i64 0) := (blk_cell BK1244.out 2).trans rfl; have hcz13_3 : w12.cell? ⟨gb1244, 3, none⟩ = some (.int .i64 0) := (blk_cell BK1244.out 3).trans rfl; have hfz13_0 := blk_frozen BK1244.out 0; have hfz13_1 := blk_frozen BK1244.out 1; have hfz13_2 := blk_frozen BK1244.out 2; have hfz13_3 := blk_frozen BK1244.out 3) | ((with_reducible refine gate_callee (f := 80) rfl ?_); refine goesL_ (some 23) rfl rfl Try.func80 (by kernel_rfl) rfl #[.int .u8 a0] rfl (by (try simp only [List.map_toArray, List.map_cons, List.map_nil]); first | done | rfl | (simp only [List.length_drop, List.length_take]; rfl)) ?_; (with_reducible refine (boscagelaw18_Many.calls k a0 t1245 _ A8.out).mono ?_); rintro e w' ⟨rfl, ⟨nd, rfl⟩⟩; refine ⟨_, rfl, ?_⟩))
        go_ret
        exact ⟨by first | rfl | (simp [errW_none, errW_some] <;> rfl) | (simp [*, errW_none, errW_some] <;> rfl), by repeat (first | (with_reducible first | exact HB.out | apply below_alloc | apply pw_below_drewN | apply below_drew1 | refine below_set ?_ GE1244.out) | exact HB.out)⟩
      · rw [if_neg c9] at H
        have c9b0 : (t1243 != (t1245 == (l1.length : Int))) = false := by simpa using c9
        (try (have c9b1 : decide (t1243 = (t1245 == (l1.length : Int))) = true := by simpa using c9))
        (try (have c9b2 : (t1243 == (t1245 == (l1.length : Int))) = true := by simpa using c9))
        clear c9
        by_cases c14 : t1243 = true
        · subst c14
          have H1 : (if (l1.length : Int) > 0 then (if 0 < (l1.length : Int) then (boscagelaw18_ModelMakes.j0 k l1 a0 t1239 t1240 t1241 t1242 a0 (rd l1 0) 0 0) else (none)) else (boscagelaw18_ModelMakes.j0 k l1 a0 t1239 t1240 t1241 t1242 a0 0 0 0)) = some r := by rw [if_pos rfl] at H; exact H
          clear H
          have H := H1
          clear H1
          have HC15 := Aside0.mk H
          clear H
          go_enter Try.func29, Try.ntmps29
          go_upto_if 37 with (first | ((with_reducible refine gate_callee (f := 70) rfl ?_); refine goesL_ (some 9) rfl rfl Try.func70 (by kernel_rfl) rfl #[] rfl (by (try simp only [List.map_toArray, List.map_cons, List.map_nil]); first | done | rfl | (simp only [List.length_drop, List.length_take]; rfl)) ?_; (with_reducible refine (boscagelaw18_Awake.calls k  true _ A3.out).mono ?_); rintro e w16 ⟨rfl, hb⟩; refine ⟨_, rfl, ?_⟩; have n0_ := Aside0.mk (below_step (by repeat (first | (with_reducible first | exact HB.out | apply below_alloc | apply pw_below_drewN | apply below_drew1) | exact HB.out)) hb); clear HB; have HB := n0_; clear n0_; (try clear hb); (try clear hb2); (try clear hk); (try clear hi)) | ((with_reducible refine gate_callee (f := 83) rfl ?_); refine goesL_ (some 18) rfl rfl Try.func83 (by kernel_rfl) rfl #[.int .u8 a0, .slice A1 l1.length c1] rfl (by (try simp only [List.map_toArray, List.map_cons, List.map_nil]); first | done | rfl | (simp only [List.length_drop, List.length_take]; rfl)) ?_; (with_reducible refine (model_Make.calls k a0 _ _ l1 t1239 t1240 t1241 t1242 true _ ?side1 ?side2 A7.out).mono ?_); (case side1 => repeat (first | exact (Kd.C_below HR1.out HB.out) | (with_reducible refine Kd.C_alloc ?_ _) | (with_reducible refine Kd.C_drewN ?_ _) | (with_reducible refine Kd.C_drew ?_))); (case side2 => exact HC1.out); rintro e w17 ⟨rfl, hb⟩; refine ⟨_, rfl, ?_⟩; have n0_ := Aside0.mk (below_step (by repeat (first | (with_reducible first | exact HB.out | apply below_alloc | apply pw_below_drewN | apply below_drew1) | exact HB.out)) hb); clear HB; have HB := n0_; clear n0_; (try clear hb); (try clear hb2); (try clear hk); (try clear hi)) | ((with_reducible refine gate_dst (N := 6) rfl ?_); refine box_event ?hg (N := 6) ?hd (cs := #[.int .u8 0, .int .i64 0, .int .i64 0, .int .i64 0]) (t := 78) ?hr ?_; (case hd => rfl); (case hg => rfl); (case hr => first | (go_simp; done) | (go_simp; rfl)); intro gb1244 hg w18 hbox hb; have n0_ := Aside0.mk (below_step (by repeat (first | (with_reducible first | exact HB.out | apply below_alloc | apply pw_below_drewN | apply below_drew1) | exact HB.out)) hb); have n1_ := Aside0.mk (hbox); have n2_ := Aside0.mk ((by rw [hg]; exact (below_size (by repeat (first | (with_reducible first | exact HB.out | apply below_alloc | apply pw_below_drewN | apply below_drew1) | exact HB.out))) : w.heap.size ≤ gb1244)); have n3_ := Aside0.mk ((by rw [hg]; exact (below_size (by repeat (first | (with_reducible first | exact HB.out | apply below_alloc | apply pw_below_drewN | apply below_drew1) | exact HB.out))) : w.heap.size ≤ gb1244)); clear HB; have HB := n0_; have BK1244 := n1_; have GW1244 := n2_; have GE1244 := n3_; clear n0_ n1_ n2_ n3_; clear hb hbox hg; have hcz19_0 : w18.cell? ⟨gb1244, 0, none⟩ = some (.int .u8 0) := (blk_cell BK1244.out 0).trans rfl; have hcz19_1 : w18.cell? ⟨gb1244, 1, none⟩ = some (.int .i64 0) := (blk_cell BK1244.out 1).trans rfl; have hcz19_2 : w18.cell? ⟨gb1244, 2, none⟩ = some (.int .i64 0) := (blk_cell BK1244.out 2).trans rfl; have hcz19_3 : w18.cell? ⟨gb1244, 3, none⟩ = some (.int .i64 0) := (blk_cell BK1244.out 3).trans rfl; have hfz19_0 := blk_frozen BK1244.out 0; have hfz19_1 := blk_frozen BK1244.out 1; have hfz19_2 := blk_frozen BK1244.out 2; have hfz19_3 := blk_frozen BK1244.out 3) | ((with_reducible refine gate_callee (f := 80) rfl ?_); refine goesL_ (some 23) rfl rfl Try.func80 (by kernel_rfl) rfl #[.int .u8 a0] rfl (by (try simp only [List.map_toArray, List.map_cons, List.map_nil]); first | done | rfl | (simp only [List.length_drop, List.length_take]; rfl)) ?_; (with_reducible refine (boscagelaw18_Many.calls k a0 t1245 _ A8.out).mono ?_); rintro e w' ⟨rfl, ⟨nd, rfl⟩⟩; refine ⟨_, rfl, ?_⟩) | ((with_reducible refine gate_dst (N := 8) rfl ?_); refine box_event ?hg (N := 8) ?hd (cs := #[.int .u8 0, .int .i64 0, .int .i64 0, .int .i64 0]) (t := 78) ?hr ?_; (case hd => rfl); (case hg => rfl); (case hr => first | (go_simp; done) | (go_simp; rfl)); intro gb1246 hg w20 hbox hb; have n0_ := Aside0.mk (blk_below (g := gb1244) (o := .cells #[.int .u8 t1239, .int .i64 t1240, .int .i64 t1241, .int .i64 t1242] 78 (0, 0)) (by (with_reducible repeat (first | refine blk_drewN ?_ _ | refine blk_drew ?_ | refine blk_alloc ?_ _)); refine blk_put (cs := #[.int .u8 t1239, .int .i64 t1240, .int .i64 t1241, .int .i64 0]) ?_ 3 _ rfl; (with_reducible repeat (first | refine blk_drewN ?_ _ | refine blk_drew ?_ | refine blk_alloc ?_ _)); refine blk_put (cs := #[.int .u8 t1239, .int .i64 t1240, .int .i64 0, .int .i64 0]) ?_ 2 _ rfl; (with_reducible repeat (first | refine blk_drewN ?_ _ | refine blk_drew ?_ | refine blk_alloc ?_ _)); refine blk_put (cs := #[.int .u8 t1239, .int .i64 0, .int .i64 0, .int .i64 0]) ?_ 1 _ rfl; (with_reducible repeat (first | refine blk_drewN ?_ _ | refine blk_drew ?_ | refine blk_alloc ?_ _)); refine blk_put (cs := #[.int .u8 0, .int .i64 0, .int .i64 0, .int .i64 0]) ?_ 0 _ rfl; (with_reducible repeat (first | refine blk_drewN ?_ _ | refine blk_drew ?_ | refine blk_alloc ?_ _)); exact BK1244.out) hb); have n1_ := Aside0.mk (below_step (by repeat (first | (with_reducible first | exact HB.out | apply below_alloc | apply pw_below_drewN | apply below_drew1 | refine below_set ?_ GE1244.out) | exact HB.out)) hb); have n2_ := Aside0.mk (hbox); have n3_ := Aside0.mk ((by rw [hg]; exact (below_size (by repeat (first | (with_reducible first | exact HB.out | apply below_alloc | apply pw_below_drewN | apply below_drew1 | refine below_set ?_ GE1244.out) | exact HB.out))) : w.heap.size ≤ gb1246)); have n4_ := Aside0.mk ((by rw [hg]; exact (below_size (by repeat (first | (with_reducible first | exact HB.out | apply below_alloc | apply pw_below_drewN | apply below_drew1 | refine below_set ?_ GE1244.out) | exact HB.out))) : w.heap.size ≤ gb1246)); have n5_ := Aside0.mk ((by rw [hg]; exact Nat.ne_of_lt (blk_lt (g := gb1244) (o := .cells #[.int .u8 t1239, .int .i64 t1240, .int .i64 t1241, .int .i64 t1242] 78 (0, 0)) (by (with_reducible repeat (first | refine blk_drewN ?_ _ | refine blk_drew ?_ | refine blk_alloc ?_ _)); refine blk_put (cs := #[.int .u8 t1239, .int .i64 t1240, .int .i64 t1241, .int .i64 0]) ?_ 3 _ rfl; (with_reducible repeat (first | refine blk_drewN ?_ _ | refine blk_drew ?_ | refine blk_alloc ?_ _)); refine blk_put (cs := #[.int .u8 t1239, .int .i64 t1240, .int .i64 0, .int .i64 0]) ?_ 2 _ rfl; (with_reducible repeat (first | refine blk_drewN ?_ _ | refine blk_drew ?_ | refine blk_alloc ?_ _)); refine blk_put (cs := #[.int .u8 t1239, .int .i64 0, .int .i64 0, .int .i64 0]) ?_ 1 _ rfl; (with_reducible repeat (first | refine blk_drewN ?_ _ | refine blk_drew ?_ | refine blk_alloc ?_ _)); refine blk_put (cs := #[.int .u8 0, .int .i64 0, .int .i64 0, .int .i64 0]) ?_ 0 _ rfl; (with_reducible repeat (first | refine blk_drewN ?_ _ | refine blk_drew ?_ | refine blk_alloc ?_ _)); exact BK1244.out)) : gb1244 ≠ gb1246)); have n6_ := Aside0.mk ((by rw [hg]; exact Nat.ne_of_gt (blk_lt (g := gb1244) (o := .cells #[.int .u8 t1239, .int .i64 t1240, .int .i64 t1241, .int .i64 t1242] 78 (0, 0)) (by (with_reducible repeat (first | refine blk_drewN ?_ _ | refine blk_drew ?_ | refine blk_alloc ?_ _)); refine blk_put (cs := #[.int .u8 t1239, .int .i64 t1240, .int .i64 t1241, .int .i64 0]) ?_ 3 _ rfl; (with_reducible repeat (first | refine blk_drewN ?_ _ | refine blk_drew ?_ | refine blk_alloc ?_ _)); refine blk_put (cs := #[.int .u8 t1239, .int .i64 t1240, .int .i64 0, .int .i64 0]) ?_ 2 _ rfl; (with_reducible repeat (first | refine blk_drewN ?_ _ | refine blk_drew ?_ | refine blk_alloc ?_ _)); refine blk_put (cs := #[.int .u8 t1239, .int .i64 0, .int .i64 0, .int .i64 0]) ?_ 1 _ rfl; (with_reducible repeat (first | refine blk_drewN ?_ _ | refine blk_drew ?_ | refine blk_alloc ?_ _)); refine blk_put (cs := #[.int .u8 0, .int .i64 0, .int .i64 0, .int .i64 0]) ?_ 0 _ rfl; (with_reducible repeat (first | refine blk_drewN ?_ _ | refine blk_drew ?_ | refine blk_alloc ?_ _)); exact BK1244.out)) : gb1246 ≠ gb1244)); clear BK1244; clear HB; have BK1244 := n0_; have HB := n1_; have BK1246 := n2_; have GW1246 := n3_; have GE1246 := n4_; have NB1244_1246 := n5_; have NB1246_1244 := n6_; clear n0_ n1_ n2_ n3_ n4_ n5_ n6_; clear hb hbox hg; have hnb21 := NB1246_1244.out; have hnc21 := NB1244_1246.out; have hcz22_0 : w20.cell? ⟨gb1246, 0, none⟩ = some (.int .u8 0) := (blk_cell BK1246.out 0).trans rfl; have hcz22_1 : w20.cell? ⟨gb1246, 1, none⟩ = some (.int .i64 0) := (blk_cell BK1246.out 1).trans rfl; have hcz22_2 : w20.cell? ⟨gb1246, 2, none⟩ = some (.int .i64 0) := (blk_cell BK1246.out 2).trans rfl; have hcz22_3 : w20.cell? ⟨gb1246, 3, none⟩ = some (.int .i64 0) := (blk_cell BK1246.out 3).trans rfl; have hfz22_0 := blk_frozen BK1246.out 0; have hfz22_1 := blk_frozen BK1246.out 1; have hfz22_2 := blk_frozen BK1246.out 2; have hfz22_3 := blk_frozen BK1246.out 3))
          (try simp only [Act.put, List.setIfInBounds_toArray, List.set_cons_zero, List.set_cons_succ])
          go_cut [] (fun wc => ∃ (kq : Nat) (x1247001_14 : Int), Aside0 (boscagelaw18_ModelMakes.j0 kq l1 a0 t1239 t1240 t1241 t1242 a0 x1247001_14 0 0 = some r) ∧ Aside0 (kq ≤ k) ∧ Aside0 (wc.heap[gb1244]? = some (.cells #[.int .u8 t1239, .int .i64 t1240, .int .i64 t1241, .int .i64 t1242] 78 (0, 0))) ∧ Aside0 (wc.heap[gb1246]? = some (.cells #[.int .u8 a0, .int .i64 x1247001_14, .int .i64 0, .int .i64 0] 78 (0, 0))) ∧ Aside0 (Below w.heap.size w wc))
          case first =>
            have H := HC15.out
            clear HC15
            by_cases c23 : (l1.length : Int) > 0
            · rw [if_pos c23] at H
              have c23b0 : decide (0 < (l1.length : Int)) = true := decide_eq_true c23
              have c23b1 : decide (0 < l1.length) = true := decide_eq_true (by omega)
              clear c23
              (first | rw [c23b0] | rw [c23b1] | (simp only [i64_w, i32_w]; rw [c23b0]) | skip)
              by_cases c24 : 0 < (l1.length : Int)
              · rw [if_pos c24] at H
                have c24b0 : decide (0 < (l1.length : Int)) = true := decide_eq_true c24
                have c24b1 : decide (0 < l1.length) = true := decide_eq_true (by omega)
                clear c24
                have H' := Aside0.mk H
                clear H
                have p1247 : 0 ≤ (0 : Int) := (by omega)
                have q1247 : 0 < (l1.length : Int) := of_decide_eq_true (by first | (with_reducible assumption) | assumption)
                obtain ⟨ad1247, e1247, hx1247_0⟩ := Kd.at_int HR1.out 0 p1247 q1247
                cases e1247
                have qi1247 : (0 < l1.length) = True := eq_true (by omega)
                (try rw [show ((0 : Int)).toNat = 0 from rfl] at hx1247_0)
                (try rw [Addr.add_zero'] at hx1247_0)
                have hn1247_0 : ad1247.block ≠ gb1246 := Nat.ne_of_lt (Nat.lt_of_lt_of_le (by have := World.block_lt_of_cell? _ _ hx1247_0; first | rwa [add_block] at this | exact this) GW1246.out)
                have hn1247_1 : ad1247.block ≠ gb1246 := Nat.ne_of_lt (Nat.lt_of_lt_of_le (by have := World.block_lt_of_cell? _ _ hx1247_0; first | rwa [add_block] at this | exact this) GW1246.out)
                have hn1247_2 : ad1247.block ≠ gb1246 := Nat.ne_of_lt (Nat.lt_of_lt_of_le (by have := World.block_lt_of_cell? _ _ hx1247_0; first | rwa [add_block] at this | exact this) GW1246.out)
                have hn1247_3 : ad1247.block ≠ gb1246 := Nat.ne_of_lt (Nat.lt_of_lt_of_le (by have := World.block_lt_of_cell? _ _ hx1247_0; first | rwa [add_block] at this | exact this) GW1246.out)
                replace hx1247_0 := (HB.out.cell (World.block_lt_of_cell? w _ hx1247_0)).trans hx1247_0
                replace hx1247_0 := (cell_far (p := ⟨gb1246, 0, none⟩) (by first | (rw [add_block]; exact hn1247_0) | (show (Addr.add _ _).block ≠ _; rw [add_block]; exact hn1247_0) | exact hn1247_0) (.int .u8 a0)).trans hx1247_0
                replace hx1247_0 := (cell_far (p := ⟨gb1246, 1, none⟩) (by first | (rw [add_block]; exact hn1247_1) | (show (Addr.add _ _).block ≠ _; rw [add_block]; exact hn1247_1) | exact hn1247_1) (.int .i64 0)).trans hx1247_0
                replace hx1247_0 := (cell_far (p := ⟨gb1246, 2, none⟩) (by first | (rw [add_block]; exact hn1247_2) | (show (Addr.add _ _).block ≠ _; rw [add_block]; exact hn1247_2) | exact hn1247_2) (.int .i64 0)).trans hx1247_0
                replace hx1247_0 := (cell_far (p := ⟨gb1246, 3, none⟩) (by first | (rw [add_block]; exact hn1247_3) | (show (Addr.add _ _).block ≠ _; rw [add_block]; exact hn1247_3) | exact hn1247_3) (.int .i64 0)).trans hx1247_0
                clear hn1247_0
                clear hn1247_1
                clear hn1247_2
                clear hn1247_3
                replace p1247 := eq_true p1247
                replace q1247 := eq_true q1247
                have hnb25 := NB1246_1244.out
                have hnc25 := NB1244_1246.out
                have hcz26_0 : w20.cell? ⟨gb1246, 0, none⟩ = some (.int .u8 0) := (blk_cell BK1246.out 0).trans rfl
                have hcz26_1 : w20.cell? ⟨gb1246, 1, none⟩ = some (.int .i64 0) := (blk_cell BK1246.out 1).trans rfl
                have hcz26_2 : w20.cell? ⟨gb1246, 2, none⟩ = some (.int .i64 0) := (blk_cell BK1246.out 2).trans rfl
                have hcz26_3 : w20.cell? ⟨gb1246, 3, none⟩ = some (.int .i64 0) := (blk_cell BK1246.out 3).trans rfl
                have hfz26_0 := blk_frozen BK1246.out 0
                have hfz26_1 := blk_frozen BK1246.out 1
                have hfz26_2 := blk_frozen BK1246.out 2
                have hfz26_3 := blk_frozen BK1246.out 3
                go_wp2
                go_meet
                case rel => exact ⟨_, (rd l1 0), H', ⟨by first | omega | exact Nat.le_refl _⟩, ⟨by (with_reducible repeat (first | refine blk_drewN ?_ _ | refine blk_drew ?_ | refine blk_alloc ?_ _)); refine blk_far ?_ NB1244_1246.out _; (with_reducible repeat (first | refine blk_drewN ?_ _ | refine blk_drew ?_ | refine blk_alloc ?_ _)); refine blk_far ?_ NB1244_1246.out _; (with_reducible repeat (first | refine blk_drewN ?_ _ | refine blk_drew ?_ | refine blk_alloc ?_ _)); refine blk_far ?_ NB1244_1246.out _; (with_reducible repeat (first | refine blk_drewN ?_ _ | refine blk_drew ?_ | refine blk_alloc ?_ _)); refine blk_far ?_ NB1244_1246.out _; (with_reducible repeat (first | refine blk_drewN ?_ _ | refine blk_drew ?_ | refine blk_alloc ?_ _)); refine blk_far ?_ NB1244_1246.out _; (with_reducible repeat (first | refine blk_drewN ?_ _ | refine blk_drew ?_ | refine blk_alloc ?_ _)); exact BK1244.out⟩, ⟨by (with_reducible repeat (first | refine blk_drewN ?_ _ | refine blk_drew ?_ | refine blk_alloc ?_ _)); refine blk_put (cs := #[.int .u8 a0, .int .i64 0, .int .i64 0, .int .i64 0]) ?_ 1 _ rfl; (with_reducible repeat (first | refine blk_drewN ?_ _ | refine blk_drew ?_ | refine blk_alloc ?_ _)); refine blk_put (cs := #[.int .u8 a0, .int .i64 0, .int .i64 0, .int .i64 0]) ?_ 3 _ rfl; (with_reducible repeat (first | refine blk_drewN ?_ _ | refine blk_drew ?_ | refine blk_alloc ?_ _)); refine blk_put (cs := #[.int .u8 a0, .int .i64 0, .int .i64 0, .int .i64 0]) ?_ 2 _ rfl; (with_reducible repeat (first | refine blk_drewN ?_ _ | refine blk_drew ?_ | refine blk_alloc ?_ _)); refine blk_put (cs := #[.int .u8 a0, .int .i64 0, .int .i64 0, .int .i64 0]) ?_ 1 _ rfl; (with_reducible repeat (first | refine blk_drewN ?_ _ | refine blk_drew ?_ | refine blk_alloc ?_ _)); refine blk_put (cs := #[.int .u8 0, .int .i64 0, .int .i64 0, .int .i64 0]) ?_ 0 _ rfl; (with_reducible repeat (first | refine blk_drewN ?_ _ | refine blk_drew ?_ | refine blk_alloc ?_ _)); exact BK1246.out⟩, ⟨by repeat (first | (with_reducible first | exact HB.out | apply below_alloc | apply pw_below_drewN | apply below_drew1 | refine below_set ?_ GE1244.out | refine below_set ?_ GE1246.out) | exact HB.out)⟩⟩
              · rw [if_neg c24] at H
                exact absurd H (by simp)
            · rw [if_neg c23] at H
              have c23b0 : decide (0 < (l1.length : Int)) = false := decide_eq_false c23
              have c23b1 : decide (0 < l1.length) = false := decide_eq_false (by omega)
              clear c23
              (first | rw [c23b0] | rw [c23b1] | (simp only [i64_w, i32_w]; rw [c23b0]) | skip)
              have H' := Aside0.mk H
              clear H
              go_wp2
              go_meet
              case rel => exact ⟨_, (0), H', ⟨by first | omega | exact Nat.le_refl _⟩, ⟨by (with_reducible repeat (first | refine blk_drewN ?_ _ | refine blk_drew ?_ | refine blk_alloc ?_ _)); refine blk_far ?_ NB1244_1246.out _; (with_reducible repeat (first | refine blk_drewN ?_ _ | refine blk_drew ?_ | refine blk_alloc ?_ _)); refine blk_far ?_ NB1244_1246.out _; (with_reducible repeat (first | refine blk_drewN ?_ _ | refine blk_drew ?_ | refine blk_alloc ?_ _)); refine blk_far ?_ NB1244_1246.out _; (with_reducible repeat (first | refine blk_drewN ?_ _ | refine blk_drew ?_ | refine blk_alloc ?_ _)); refine blk_far ?_ NB1244_1246.out _; (with_reducible repeat (first | refine blk_drewN ?_ _ | refine blk_drew ?_ | refine blk_alloc ?_ _)); exact BK1244.out⟩, ⟨by (with_reducible repeat (first | refine blk_drewN ?_ _ | refine blk_drew ?_ | refine blk_alloc ?_ _)); refine blk_put (cs := #[.int .u8 a0, .int .i64 0, .int .i64 0, .int .i64 0]) ?_ 3 _ rfl; (with_reducible repeat (first | refine blk_drewN ?_ _ | refine blk_drew ?_ | refine blk_alloc ?_ _)); refine blk_put (cs := #[.int .u8 a0, .int .i64 0, .int .i64 0, .int .i64 0]) ?_ 2 _ rfl; (with_reducible repeat (first | refine blk_drewN ?_ _ | refine blk_drew ?_ | refine blk_alloc ?_ _)); refine blk_put (cs := #[.int .u8 a0, .int .i64 0, .int .i64 0, .int .i64 0]) ?_ 1 _ rfl; (with_reducible repeat (first | refine blk_drewN ?_ _ | refine blk_drew ?_ | refine blk_alloc ?_ _)); refine blk_put (cs := #[.int .u8 0, .int .i64 0, .int .i64 0, .int .i64 0]) ?_ 0 _ rfl; (with_reducible repeat (first | refine blk_drewN ?_ _ | refine blk_drew ?_ | refine blk_alloc ?_ _)); exact BK1246.out⟩, ⟨by repeat (first | (with_reducible first | exact HB.out | apply below_alloc | apply pw_below_drewN | apply below_drew1 | refine below_set ?_ GE1244.out | refine below_set ?_ GE1246.out) | exact HB.out)⟩⟩
          case rest =>
            clear HC15
            try clear c1
            try clear p1
            try clear q1
            try clear hx1
            try clear qi1
            try clear c2
            try clear p2
            try clear c4
            try clear c5
            try clear c5b0
            try clear c5b1
            try clear c7
            try clear c8
            try clear c9
            try clear c9b0
            try clear c9b1
            try clear c9b2
            try clear p12
            try clear q12
            try clear hx12
            try clear qi12
            try clear c14
            try clear c21
            try clear c23
            try clear c23b0
            try clear c23b1
            try clear c24
            try clear c24b0
            try clear c24b1
            try clear c25
            try clear hcz13_0
            try clear hcz13_1
            try clear hcz13_2
            try clear hcz13_3
            try clear hcz19_0
            try clear hcz19_1
            try clear hcz19_2
            try clear hcz19_3
            try clear hcz22_0
            try clear hcz22_1
            try clear hcz22_2
            try clear hcz22_3
            try clear hcz26_0
            try clear hcz26_1
            try clear hcz26_2
            try clear hcz26_3
            try clear hfz13_0
            try clear hfz13_1
            try clear hfz13_2
            try clear hfz13_3
            try clear hfz19_0
            try clear hfz19_1
            try clear hfz19_2
            try clear hfz19_3
            try clear hfz22_0
            try clear hfz22_1
            try clear hfz22_2
            try clear hfz22_3
            try clear hfz26_0
            try clear hfz26_1
            try clear hfz26_2
            try clear hfz26_3
            try clear hx1247_0
            try clear p1247
            try clear q1247
            obtain ⟨kq, x1247001_14, HA, HJ14, BK1244, BK1246, HB⟩ := hcut
            cases kq with
            | zero => exact absurd HA.out (by simp [boscagelaw18_ModelMakes.j0])
            | succ kj14 =>
              have H := HA.out
              clear HA
              simp only [boscagelaw18_ModelMakes.j0] at H
              have HC27 := Aside0.mk H
              clear H
              go_upto_region 14 with (fail)
              go_cut [52] (fun v52 wc => ∃ (kq : Nat) (x52_26 : Bool), v52 = .bool x52_26 ∧ Aside0 (boscagelaw18_ModelMakes.j1 kq l1 x52_26 t1239 t1240 t1241 t1242 a0 x1247001_14 0 0 = some r) ∧ Aside0 (kq ≤ kj14) ∧ Aside0 (wc.heap[gb1244]? = some (.cells #[.int .u8 t1239, .int .i64 t1240, .int .i64 t1241, .int .i64 t1242] 78 (0, 0))) ∧ Aside0 (wc.heap[gb1246]? = some (.cells #[.int .u8 a0, .int .i64 x1247001_14, .int .i64 0, .int .i64 0] 78 (0, 0))) ∧ Aside0 (Below w.heap.size w wc))
              case first =>
                have H := HC27.out
                clear HC27
                by_cases c28 : (l1.length : Int) > 1
                · rw [if_pos c28] at H
                  have c28b0 : decide (1 < (l1.length : Int)) = true := decide_eq_true c28
                  have c28b1 : decide (1 < l1.length) = true := decide_eq_true (by omega)
                  clear c28
                  (first | rw [c28b0] | rw [c28b1] | (simp only [i64_w, i32_w]; rw [c28b0]) | skip)
                  by_cases c29 : a0 = 1
                  · rw [if_pos c29] at H
                    have c29b0 : (a0 == 1) = true := beq_iff_eq.mpr c29
                    have c29b1 : (a0 != 1) = false := bne_eq_false_iff_eq.mpr c29
                    clear c29
                    have H' := Aside0.mk H
                    clear H
                    go_wp2
                    go_meet
                    case rel => exact ⟨_, (true), (by first | rfl | (simp; done) | (simp [*]; done)), H', ⟨by have := HJ14.out; first | omega | exact Nat.le_refl _⟩, ⟨by (with_reducible repeat (first | refine blk_drewN ?_ _ | refine blk_drew ?_ | refine blk_alloc ?_ _)); exact BK1244.out⟩, ⟨by (with_reducible repeat (first | refine blk_drewN ?_ _ | refine blk_drew ?_ | refine blk_alloc ?_ _)); exact BK1246.out⟩, ⟨by repeat (first | (with_reducible first | exact HB.out | apply below_alloc | apply pw_below_drewN | apply below_drew1 | refine below_set ?_ GE1244.out | refine below_set ?_ GE1246.out) | exact HB.out)⟩⟩
                  · rw [if_neg c29] at H
                    have c29b0 : (a0 == 1) = false := beq_eq_false_iff_ne.mpr c29
                    have c29b1 : (a0 != 1) = true := bne_iff_ne.mpr c29
                    have H' := Aside0.mk H
                    clear H
                    go_wp2
                    go_meet
                    case rel => exact ⟨_, ((a0 == 2)), (by first | rfl | (simp; done) | (simp [*]; done)), H', ⟨by have := HJ14.out; first | omega | exact Nat.le_refl _⟩, ⟨by (with_reducible repeat (first | refine blk_drewN ?_ _ | refine blk_drew ?_ | refine blk_alloc ?_ _)); exact BK1244.out⟩, ⟨by (with_reducible repeat (first | refine blk_drewN ?_ _ | refine blk_drew ?_ | refine blk_alloc ?_ _)); exact BK1246.out⟩, ⟨by repeat (first | (with_reducible first | exact HB.out | apply below_alloc | apply pw_below_drewN | apply below_drew1 | refine below_set ?_ GE1244.out | refine below_set ?_ GE1246.out) | exact HB.out)⟩⟩
                · rw [if_neg c28] at H
                  have c28b0 : decide (1 < (l1.length : Int)) = false := decide_eq_false c28
                  have c28b1 : decide (1 < l1.length) = false := decide_eq_false (by omega)
                  clear c28
                  (first | rw [c28b0] | rw [c28b1] | (simp only [i64_w, i32_w]; rw [c28b0]) | skip)
                  have H' := Aside0.mk H
                  clear H
                  go_wp2
                  go_meet
                  case rel => exact ⟨_, (false), (by first | rfl | (simp; done) | (simp [*]; done)), H', ⟨by have := HJ14.out; first | omega | exact Nat.le_refl _⟩, ⟨by (with_reducible repeat (first | refine blk_drewN ?_ _ | refine blk_drew ?_ | refine blk_alloc ?_ _)); exact BK1244.out⟩, ⟨by (with_reducible repeat (first | refine blk_drewN ?_ _ | refine blk_drew ?_ | refine blk_alloc ?_ _)); exact BK1246.out⟩, ⟨by repeat (first | (with_reducible first | exact HB.out | apply below_alloc | apply pw_below_drewN | apply below_drew1 | refine below_set ?_ GE1244.out | refine below_set ?_ GE1246.out) | exact HB.out)⟩⟩
              case rest =>
                clear HC27
                try clear c1
                try clear p1
                try clear q1
                try clear hx1
                try clear qi1
                try clear c2
                try clear p2
                try clear c4
                try clear c5
                try clear c5b0
                try clear c5b1
                try clear c7
                try clear c8
                try clear c9
                try clear c9b0
                try clear c9b1
                try clear c9b2
                try clear p12
                try clear q12
                try clear hx12
                try clear qi12
                try clear c14
                try clear c21
                try clear c23
                try clear c23b0
                try clear c23b1
                try clear c24
                try clear c24b0
                try clear c24b1
                try clear c25
                try clear c28
                try clear c28b0
                try clear c28b1
                try clear c29
                try clear c29b0
                try clear c29b1
                try clear hcz13_0
                try clear hcz13_1
                try clear hcz13_2
                try clear hcz13_3
                try clear hcz19_0
                try clear hcz19_1
                try clear hcz19_2
                try clear hcz19_3
                try clear hcz22_0
                try clear hcz22_1
                try clear hcz22_2
                try clear hcz22_3
                try clear hcz26_0
                try clear hcz26_1
                try clear hcz26_2
                try clear hcz26_3
                try clear hfz13_0
                try clear hfz13_1
                try clear hfz13_2
                try clear hfz13_3
                try clear hfz19_0
                try clear hfz19_1
                try clear hfz19_2
                try clear hfz19_3
                try clear hfz22_0
                try clear hfz22_1
                try clear hfz22_2
                try clear hfz22_3
                try clear hfz26_0
                try clear hfz26_1
                try clear hfz26_2
                try clear hfz26_3
                try clear hx1247_0
                try clear p1
                try clear p12
                try clear p1247
                try clear p2
                try clear q1
                try clear q12
                try clear q1247
                obtain ⟨kq, x52_26, rfl, HA, HJ26, BK1244, BK1246, HB⟩ := hcut
                cases kq with
                | zero => exact absurd HA.out (by simp [boscagelaw18_ModelMakes.j1])
                | succ kj26 =>
                  have H := HA.out
                  clear HA
                  simp only [boscagelaw18_ModelMakes.j1] at H
                  by_cases c30 : x52_26 = true
                  · subst c30
                    have H1 : (if 1 < (l1.length : Int) then (some (t1239 == a0 && (t1240 == x1247001_14 && (t1241 == 0 && (t1242 == (rd l1 1)))))) else (none)) = some r := by rw [if_pos rfl] at H; exact H
                    clear H
                    have H := H1
                    clear H1
                    by_cases c31 : 1 < (l1.length : Int)
                    · rw [if_pos c31] at H
                      have c31b0 : decide (1 < (l1.length : Int)) = true := decide_eq_true c31
                      have c31b1 : decide (1 < l1.length) = true := decide_eq_true (by omega)
                      clear c31
                      obtain rfl := Option.some.inj H
                      have p1248 : 0 ≤ (1 : Int) := (by omega)
                      have q1248 : 1 < (l1.length : Int) := of_decide_eq_true (by first | (with_reducible assumption) | assumption)
                      obtain ⟨ad1248, e1248, hx1248_0⟩ := Kd.at_int HR1.out 1 p1248 q1248
                      cases e1248
                      (try simp only [show (1 : Int).toNat = 1 from rfl, Nat.reduceMul, Nat.reduceEqDiff, Go.Addr.add, ↓reduceIte] at hx1248_0)
                      have qi1248 : (1 < l1.length) = True := eq_true (by omega)
                      (try rw [show ((1 : Int)).toNat = 1 from rfl] at hx1248_0)
                      replace hx1248_0 := (HB.out.cell (World.block_lt_of_cell? w _ hx1248_0)).trans hx1248_0
                      replace p1248 := eq_true p1248
                      replace q1248 := eq_true q1248
                      have hnb32 := NB1246_1244.out
                      have hnc32 := NB1244_1246.out
                      have hcz33_0 : wc.cell? ⟨gb1246, 0, none⟩ = some (.int .u8 a0) := (blk_cell BK1246.out 0).trans rfl
                      have hcz33_1 : wc.cell? ⟨gb1246, 1, none⟩ = some (.int .i64 x1247001_14) := (blk_cell BK1246.out 1).trans rfl
                      have hcz33_2 : wc.cell? ⟨gb1246, 2, none⟩ = some (.int .i64 0) := (blk_cell BK1246.out 2).trans rfl
                      have hcz33_3 : wc.cell? ⟨gb1246, 3, none⟩ = some (.int .i64 0) := (blk_cell BK1246.out 3).trans rfl
                      have hfz33_0 := blk_frozen BK1246.out 0
                      have hfz33_1 := blk_frozen BK1246.out 1
                      have hfz33_2 := blk_frozen BK1246.out 2
                      have hfz33_3 := blk_frozen BK1246.out 3
                      have hcz34_0 : wc.cell? ⟨gb1244, 0, none⟩ = some (.int .u8 t1239) := (blk_cell BK1244.out 0).trans rfl
                      have hcz34_1 : wc.cell? ⟨gb1244, 1, none⟩ = some (.int .i64 t1240) := (blk_cell BK1244.out 1).trans rfl
                      have hcz34_2 : wc.cell? ⟨gb1244, 2, none⟩ = some (.int .i64 t1241) := (blk_cell BK1244.out 2).trans rfl
                      have hcz34_3 : wc.cell? ⟨gb1244, 3, none⟩ = some (.int .i64 t1242) := (blk_cell BK1244.out 3).trans rfl
                      have hfz34_0 := blk_frozen BK1244.out 0
                      have hfz34_1 := blk_frozen BK1244.out 1
                      have hfz34_2 := blk_frozen BK1244.out 2
                      have hfz34_3 := blk_frozen BK1244.out 3
                      go_wp2
                      go_ret
                      exact ⟨by first | rfl | (simp [errW_none, errW_some] <;> rfl) | (simp [*, errW_none, errW_some] <;> rfl), by repeat (first | (with_reducible first | exact HB.out | apply below_alloc | apply pw_below_drewN | apply below_drew1 | refine below_set ?_ GE1244.out | refine below_set ?_ GE1246.out) | exact HB.out)⟩
                    · rw [if_neg c31] at H
                      exact absurd H (by simp)
                  · replace c30 := Bool.eq_false_iff.mpr c30
                    subst c30
                    have H1 : (if (l1.length : Int) > 1 then (if 1 < (l1.length : Int) then (some (t1239 == a0 && (t1240 == x1247001_14 && (t1241 == (rd l1 1) && (t1242 == 0))))) else (none)) else (some (t1239 == a0 && (t1240 == x1247001_14 && (t1241 == 0 && (t1242 == 0)))))) = some r := by rw [if_neg (show ¬ (false = true) by decide)] at H; exact H
                    clear H
                    have H := H1
                    clear H1
                    by_cases c35 : (l1.length : Int) > 1
                    · rw [if_pos c35] at H
                      have c35b0 : decide (1 < (l1.length : Int)) = true := decide_eq_true c35
                      have c35b1 : decide (1 < l1.length) = true := decide_eq_true (by omega)
                      clear c35
                      by_cases c36 : 1 < (l1.length : Int)
                      · rw [if_pos c36] at H
                        have c36b0 : decide (1 < (l1.length : Int)) = true := decide_eq_true c36
                        have c36b1 : decide (1 < l1.length) = true := decide_eq_true (by omega)
                        clear c36
                        obtain rfl := Option.some.inj H
                        have p1249 : 0 ≤ (1 : Int) := (by omega)
                        have q1249 : 1 < (l1.length : Int) := of_decide_eq_true (by first | (with_reducible assumption) | assumption)
                        obtain ⟨ad1249, e1249, hx1249_0⟩ := Kd.at_int HR1.out 1 p1249 q1249
                        cases e1249
                        (try simp only [show (1 : Int).toNat = 1 from rfl, Nat.reduceMul, Nat.reduceEqDiff, Go.Addr.add, ↓reduceIte] at hx1249_0)
                        have qi1249 : (1 < l1.length) = True := eq_true (by omega)
                        (try rw [show ((1 : Int)).toNat = 1 from rfl] at hx1249_0)
                        replace hx1249_0 := (HB.out.cell (World.block_lt_of_cell? w _ hx1249_0)).trans hx1249_0
                        replace p1249 := eq_true p1249
                        replace q1249 := eq_true q1249
                        have hnb37 := NB1246_1244.out
                        have hnc37 := NB1244_1246.out
                        have hcz38_0 : wc.cell? ⟨gb1246, 0, none⟩ = some (.int .u8 a0) := (blk_cell BK1246.out 0).trans rfl
                        have hcz38_1 : wc.cell? ⟨gb1246, 1, none⟩ = some (.int .i64 x1247001_14) := (blk_cell BK1246.out 1).trans rfl
                        have hcz38_2 : wc.cell? ⟨gb1246, 2, none⟩ = some (.int .i64 0) := (blk_cell BK1246.out 2).trans rfl
                        have hcz38_3 : wc.cell? ⟨gb1246, 3, none⟩ = some (.int .i64 0) := (blk_cell BK1246.out 3).trans rfl
                        have hfz38_0 := blk_frozen BK1246.out 0
                        have hfz38_1 := blk_frozen BK1246.out 1
                        have hfz38_2 := blk_frozen BK1246.out 2
                        have hfz38_3 := blk_frozen BK1246.out 3
                        have hcz39_0 : wc.cell? ⟨gb1244, 0, none⟩ = some (.int .u8 t1239) := (blk_cell BK1244.out 0).trans rfl
                        have hcz39_1 : wc.cell? ⟨gb1244, 1, none⟩ = some (.int .i64 t1240) := (blk_cell BK1244.out 1).trans rfl
                        have hcz39_2 : wc.cell? ⟨gb1244, 2, none⟩ = some (.int .i64 t1241) := (blk_cell BK1244.out 2).trans rfl
                        have hcz39_3 : wc.cell? ⟨gb1244, 3, none⟩ = some (.int .i64 t1242) := (blk_cell BK1244.out 3).trans rfl
                        have hfz39_0 := blk_frozen BK1244.out 0
                        have hfz39_1 := blk_frozen BK1244.out 1
                        have hfz39_2 := blk_frozen BK1244.out 2
                        have hfz39_3 := blk_frozen BK1244.out 3
                        go_wp2
                        go_ret
                        exact ⟨by first | rfl | (simp [errW_none, errW_some] <;> rfl) | (simp [*, errW_none, errW_some] <;> rfl), by repeat (first | (with_reducible first | exact HB.out | apply below_alloc | apply pw_below_drewN | apply below_drew1 | refine below_set ?_ GE1244.out | refine below_set ?_ GE1246.out) | exact HB.out)⟩
                      · rw [if_neg c36] at H
                        exact absurd H (by simp)
                    · rw [if_neg c35] at H
                      have c35b0 : decide (1 < (l1.length : Int)) = false := decide_eq_false c35
                      have c35b1 : decide (1 < l1.length) = false := decide_eq_false (by omega)
                      clear c35
                      obtain rfl := Option.some.inj H
                      have hnb40 := NB1244_1246.out
                      have hnc40 := NB1246_1244.out
                      have hcz41_0 : wc.cell? ⟨gb1244, 0, none⟩ = some (.int .u8 t1239) := (blk_cell BK1244.out 0).trans rfl
                      have hcz41_1 : wc.cell? ⟨gb1244, 1, none⟩ = some (.int .i64 t1240) := (blk_cell BK1244.out 1).trans rfl
                      have hcz41_2 : wc.cell? ⟨gb1244, 2, none⟩ = some (.int .i64 t1241) := (blk_cell BK1244.out 2).trans rfl
                      have hcz41_3 : wc.cell? ⟨gb1244, 3, none⟩ = some (.int .i64 t1242) := (blk_cell BK1244.out 3).trans rfl
                      have hfz41_0 := blk_frozen BK1244.out 0
                      have hfz41_1 := blk_frozen BK1244.out 1
                      have hfz41_2 := blk_frozen BK1244.out 2
                      have hfz41_3 := blk_frozen BK1244.out 3
                      have hcz42_0 : wc.cell? ⟨gb1246, 0, none⟩ = some (.int .u8 a0) := (blk_cell BK1246.out 0).trans rfl
                      have hcz42_1 : wc.cell? ⟨gb1246, 1, none⟩ = some (.int .i64 x1247001_14) := (blk_cell BK1246.out 1).trans rfl
                      have hcz42_2 : wc.cell? ⟨gb1246, 2, none⟩ = some (.int .i64 0) := (blk_cell BK1246.out 2).trans rfl
                      have hcz42_3 : wc.cell? ⟨gb1246, 3, none⟩ = some (.int .i64 0) := (blk_cell BK1246.out 3).trans rfl
                      have hfz42_0 := blk_frozen BK1246.out 0
                      have hfz42_1 := blk_frozen BK1246.out 1
                      have hfz42_2 := blk_frozen BK1246.out 2
                      have hfz42_3 := blk_frozen BK1246.out 3
                      go_wp2
                      go_ret
                      exact ⟨by first | rfl | (simp [errW_none, errW_some] <;> rfl) | (simp [*, errW_none, errW_some] <;> rfl), by repeat (first | (with_reducible first | exact HB.out | apply below_alloc | apply pw_below_drewN | apply below_drew1 | refine below_set ?_ GE1244.out | refine below_set ?_ GE1246.out) | exact HB.out)⟩
        · replace c14 := Bool.eq_false_iff.mpr c14
          subst c14
          have H1 : (some (t1239 == 0 && (t1240 == 0 && (t1241 == 0 && (t1242 == 0))))) = some r := by rw [if_neg (show ¬ (false = true) by decide)] at H; exact H
          clear H
          have H := H1
          clear H1
          obtain rfl := Option.some.inj H
          go_enter Try.func29, Try.ntmps29
          go_wp2_with (first | ((with_reducible refine gate_callee (f := 70) rfl ?_); refine goesL_ (some 9) rfl rfl Try.func70 (by kernel_rfl) rfl #[] rfl (by (try simp only [List.map_toArray, List.map_cons, List.map_nil]); first | done | rfl | (simp only [List.length_drop, List.length_take]; rfl)) ?_; (with_reducible refine (boscagelaw18_Awake.calls k  true _ A3.out).mono ?_); rintro e w43 ⟨rfl, hb⟩; refine ⟨_, rfl, ?_⟩; have n0_ := Aside0.mk (below_step (by repeat (first | (with_reducible first | exact HB.out | apply below_alloc | apply pw_below_drewN | apply below_drew1) | exact HB.out)) hb); clear HB; have HB := n0_; clear n0_; (try clear hb); (try clear hb2); (try clear hk); (try clear hi)) | ((with_reducible refine gate_callee (f := 83) rfl ?_); refine goesL_ (some 18) rfl rfl Try.func83 (by kernel_rfl) rfl #[.int .u8 a0, .slice A1 l1.length c1] rfl (by (try simp only [List.map_toArray, List.map_cons, List.map_nil]); first | done | rfl | (simp only [List.length_drop, List.length_take]; rfl)) ?_; (with_reducible refine (model_Make.calls k a0 _ _ l1 t1239 t1240 t1241 t1242 false _ ?side1 ?side2 A7.out).mono ?_); (case side1 => repeat (first | exact (Kd.C_below HR1.out HB.out) | (with_reducible refine Kd.C_alloc ?_ _) | (with_reducible refine Kd.C_drewN ?_ _) | (with_reducible refine Kd.C_drew ?_))); (case side2 => exact HC1.out); rintro e w44 ⟨rfl, hb⟩; refine ⟨_, rfl, ?_⟩; have n0_ := Aside0.mk (below_step (by repeat (first | (with_reducible first | exact HB.out | apply below_alloc | apply pw_below_drewN | apply below_drew1) | exact HB.out)) hb); clear HB; have HB := n0_; clear n0_; (try clear hb); (try clear hb2); (try clear hk); (try clear hi)) | ((with_reducible refine gate_dst (N := 6) rfl ?_); refine box_event ?hg (N := 6) ?hd (cs := #[.int .u8 0, .int .i64 0, .int .i64 0, .int .i64 0]) (t := 78) ?hr ?_; (case hd => rfl); (case hg => rfl); (case hr => first | (go_simp; done) | (go_simp; rfl)); intro gb1244 hg w45 hbox hb; have n0_ := Aside0.mk (below_step (by repeat (first | (with_reducible first | exact HB.out | apply below_alloc | apply pw_below_drewN | apply below_drew1) | exact HB.out)) hb); have n1_ := Aside0.mk (hbox); have n2_ := Aside0.mk ((by rw [hg]; exact (below_size (by repeat (first | (with_reducible first | exact HB.out | apply below_alloc | apply pw_below_drewN | apply below_drew1) | exact HB.out))) : w.heap.size ≤ gb1244)); have n3_ := Aside0.mk ((by rw [hg]; exact (below_size (by repeat (first | (with_reducible first | exact HB.out | apply below_alloc | apply pw_below_drewN | apply below_drew1) | exact HB.out))) : w.heap.size ≤ gb1244)); clear HB; have HB := n0_; have BK1244 := n1_; have GW1244 := n2_; have GE1244 := n3_; clear n0_ n1_ n2_ n3_; clear hb hbox hg; have hcz46_0 : w45.cell? ⟨gb1244, 0, none⟩ = some (.int .u8 0) := (blk_cell BK1244.out 0).trans rfl; have hcz46_1 : w45.cell? ⟨gb1244, 1, none⟩ = some (.int .i64 0) := (blk_cell BK1244.out 1).trans rfl; have hcz46_2 : w45.cell? ⟨gb1244, 2, none⟩ = some (.int .i64 0) := (blk_cell BK1244.out 2).trans rfl; have hcz46_3 : w45.cell? ⟨gb1244, 3, none⟩ = some (.int .i64 0) := (blk_cell BK1244.out 3).trans rfl; have hfz46_0 := blk_frozen BK1244.out 0; have hfz46_1 := blk_frozen BK1244.out 1; have hfz46_2 := blk_frozen BK1244.out 2; have hfz46_3 := blk_frozen BK1244.out 3) | ((with_reducible refine gate_callee (f := 80) rfl ?_); refine goesL_ (some 23) rfl rfl Try.func80 (by kernel_rfl) rfl #[.int .u8 a0] rfl (by (try simp only [List.map_toArray, List.map_cons, List.map_nil]); first | done | rfl | (simp only [List.length_drop, List.length_take]; rfl)) ?_; (with_reducible refine (boscagelaw18_Many.calls k a0 t1245 _ A8.out).mono ?_); rintro e w' ⟨rfl, ⟨nd, rfl⟩⟩; refine ⟨_, rfl, ?_⟩))
          go_ret
          exact ⟨by first | rfl | (simp [errW_none, errW_some] <;> rfl) | (simp [*, errW_none, errW_some] <;> rfl), by repeat (first | (with_reducible first | exact HB.out | apply below_alloc | apply pw_below_drewN | apply below_drew1 | refine below_set ?_ GE1244.out) | exact HB.out)⟩
  · replace c4 := Bool.eq_false_iff.mpr c4
    subst c4
    have H1 : (some false) = some r := by rw [if_neg (show ¬ (false = true) by decide)] at H; exact H
    clear H
    have H := H1
    clear H1
    obtain rfl := Option.some.inj H
    go_enter Try.func29, Try.ntmps29
    go_wp2_with (first | ((with_reducible refine gate_callee (f := 70) rfl ?_); refine goesL_ (some 9) rfl rfl Try.func70 (by kernel_rfl) rfl #[] rfl (by (try simp only [List.map_toArray, List.map_cons, List.map_nil]); first | done | rfl | (simp only [List.length_drop, List.length_take]; rfl)) ?_; (with_reducible refine (boscagelaw18_Awake.calls k  false _ A3.out).mono ?_); rintro e w47 ⟨rfl, hb⟩; refine ⟨_, rfl, ?_⟩; have n0_ := Aside0.mk (below_step (by repeat (first | (with_reducible first | exact HB.out | apply below_alloc | apply pw_below_drewN | apply below_drew1) | exact HB.out)) hb); clear HB; have HB := n0_; clear n0_; (try clear hb); (try clear hb2); (try clear hk); (try clear hi)))
    go_ret
    exact ⟨by first | rfl | (simp [errW_none, errW_some] <;> rfl) | (simp [*, errW_none, errW_some] <;> rfl), by repeat (first | (with_reducible first | exact HB.out | apply below_alloc | apply pw_below_drewN | apply below_drew1) | exact HB.out)⟩

/-- THE ONE PURE STATEMENT of boscagelaw18_ModelMakes: yours. -/
def boscagelaw18_ModelMakes.Pure : Prop := ∀ (a0 : Int) (l1 : List Int), (Lit.int .u8 a0).wf = true → l1.length ≤ maxLen → l1.length * 8 ≤ 140737488351232 → (∀ x ∈ l1, (Lit.int .i64 x).wf = true) → ∃ k, boscagelaw18_ModelMakes.f k a0 l1 = some true
theorem boscagelaw18_ModelMakes.walk (P : boscagelaw18_ModelMakes.Pure) (a0 : Int) (a1 : Option Addr) (len1 cap1 : Nat) (z1 : List Int) (w : World) (w0 : (Lit.int .u8 a0).wf = true) (w1 : (a1 = none ∧ len1 = 0 ∧ cap1 = 0 ∧ z1 = []) ∨ ∃ x, a1 = some x ∧ len1 ≤ cap1 ∧ cap1 ≤ maxLen ∧ z1.length = cap1 ∧ (∀ i, i < z1.length → w.cell? (x.add i) = some (.int .i64 (z1.getD i 0))) ∧ ∀ n ∈ z1, (Lit.int .i64 n).wf = true) (y1 : len1 * 8 ≤ 140737488351232) :
    Calls Try.prog 29 #[.int .u8 a0, .slice a1 len1 cap1] w fun e w' => e = .returned (.bool true) ∧ Below w.heap.size w w' := by
  obtain ⟨l1, rfl, hr1, hm1, hw1, hc1⟩ := ReadsInt.ofRowC w1
  obtain ⟨k, h⟩ := P a0 l1 w0 hm1 y1 hw1
  refine (boscagelaw18_ModelMakes.calls k a0 _ _ l1 true w (Kd.C_of_reads (d := (0 : Int)) (h1 := fun _ => rfl) hr1) hc1 h).mono ?_
  rintro e w' ⟨rfl, hd⟩
  exact ⟨rfl, hd⟩

end Go.Proofs.Ytkoiffkonjpoiaa.Q
