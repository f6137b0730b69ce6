/- Go functions of the program as plain Lean functions, and for each the contract that the call comes to its answers; written by a turned print of this session. -/
import Derived.Test.YtkoiffkonjpoiaaQ0
import Derived.Test.YtkoiffkonjpoiaaQB1
namespace Go.Proofs.Ytkoiffkonjpoiaa.Q
open Go.RowKit Go.Proofs.YtkoiffkonjpoiaaW.PrintWords Go.Proofs.YtkoiffkonjpoiaaW.PrintLast Go.Proofs.YtkoiffkonjpoiaaW.PrintMore Go.Proofs.YtkoiffkonjpoiaaX
attribute [local go_sem] max2_int min2_int max_two min_two max_three min_three max_four min_four   -- for this text's walks alone
set_option linter.unusedVariables false
set_option linter.unusedSimpArgs false

/-! ### inner_Inner_Way: function 40 -/
def inner_Inner_Way.f (k : Nat) (l0_0 : List Int) (l0_1 : List Int) (a1 : Int) : Option (Int) := (slices_BinarySearch_int64_int64.f k l0_0 a1).bind fun bt110 => (if bt110.2 = true then (some (mn (wrap64 (bt110.1 + 1)) (mx (wrap64 ((l0_1.length : Int) - 1)) 0))) else (some (mn bt110.1 (mx (wrap64 ((l0_1.length : Int) - 1)) 0))))
theorem inner_Inner_Way.mono : ∀ a0 a1 a2 k, LeO (inner_Inner_Way.f k a0 a1 a2) (inner_Inner_Way.f (k + 1) a0 a1 a2) := by
  intro a0 a1 a2 k
  unfold inner_Inner_Way.f
  repeat' first
      | (with_reducible exact slices_BinarySearch_int64_int64.mono _ _ _)
      | (with_reducible exact LeO.refl _)
      | (with_reducible exact LeO.none _)
      | (with_reducible refine LeO.ite ?_ ?_)
      | (with_reducible refine LeO.bind ?_ (fun _ => ?_))
      | exact slices_BinarySearch_int64_int64.mono _ _ _
      | exact LeO.none _
      | refine LeO.ite ?_ ?_
      | refine LeO.bind ?_ (fun _ => ?_)
set_option maxHeartbeats 8000000 in
set_option maxRecDepth 100000 in
theorem inner_Inner_Way.calls (k : Nat) (A0_0 : Option Addr) (c0_0 : Nat) (l0_0 : List Int) (A0_1 : Option Addr) (c0_1 : Nat) (l0_1 : List Int) (a1 : Int) (r : Int) (w : World) (hr0_0 : Kd.C (Kd.int .i64) w A0_0 l0_0.length l0_0) (hc0_0 : l0_0.length ≤ c0_0) (hr0_1 : Kd.C (Kd.int .i64) w A0_1 l0_1.length l0_1) (hc0_1 : l0_1.length ≤ c0_1) (h : inner_Inner_Way.f k l0_0 l0_1 a1 = some r) :
    Calls Try.prog 40 #[.agg #[.slice A0_0 l0_0.length c0_0, .slice A0_1 l0_1.length c0_1], .int .i64 a1] w fun e w' => e = .returned (.int .i64 r) ∧ Below w.heap.size w w' := by
  have hu26 := Try.underlying26
  have HR0_0 := Aside0.mk hr0_0
  have HC0_0 := Aside0.mk hc0_0
  clear hr0_0 hc0_0
  have HR0_1 := Aside0.mk hr0_1
  have HC0_1 := Aside0.mk hc0_1
  clear hr0_1 hc0_1
  have HB := Aside0.mk (Below.refl w.heap.size w)
  have H : ((slices_BinarySearch_int64_int64.f k l0_0 a1).bind fun bt110 => (if bt110.2 = true then (some (mn (wrap64 (bt110.1 + 1)) (mx (wrap64 ((l0_1.length : Int) - 1)) 0))) else (some (mn bt110.1 (mx (wrap64 ((l0_1.length : Int) - 1)) 0))))) = some r := h
  clear h
  replace H := Option.bind_eq_some_iff.mp H
  obtain ⟨⟨t110, t111⟩, A30, H⟩ := H
  replace H : (if t111 = true then (some (mn (wrap64 (t110 + 1)) (mx (wrap64 ((l0_1.length : Int) - 1)) 0))) else (some (mn t110 (mx (wrap64 ((l0_1.length : Int) - 1)) 0)))) = some r := H
  have A3 := Aside0.mk A30
  clear A30
  by_cases c4 : t111 = true
  · subst c4
    have H1 : (some (mn (wrap64 (t110 + 1)) (mx (wrap64 ((l0_1.length : Int) - 1)) 0))) = some r := by rw [if_pos rfl] at H; exact H
    clear H
    have H := H1
    clear H1
    obtain ⟨ji5, hji5⟩ : ∃ j_ : Int, (mx (wrap64 ((l0_1.length : Int) - 1)) 0) = j_ := ⟨_, rfl⟩
    replace H : (some (mn (wrap64 (t110 + 1)) (ji5))) = some r := by first | (rw [hji5] at H; exact H) | (simp only [hji5] at H ⊢; exact H)
    (try rw [hji5] at A3)
    (try (have hji5l : 0 ≤ ji5 := by (rw [← hji5]; unfold mx; (repeat' split) <;> omega)))
    (try (have hji5m : 0 ≤ ji5 := by omega))
    have hji5_ : (if (wrap64 ((l0_1.length : Int) - 1)) < 0 then 0 else (wrap64 ((l0_1.length : Int) - 1))) = ji5 := hji5
    obtain ⟨ji6, hji6⟩ : ∃ j_ : Int, (mn (wrap64 (t110 + 1)) (ji5)) = j_ := ⟨_, rfl⟩
    replace H : (some ji6) = some r := by first | (rw [hji6] at H; exact H) | (simp only [hji6] at H ⊢; exact H)
    (try rw [hji6] at A3)
    have hji6_ : (if (ji5) < (wrap64 (t110 + 1)) then (ji5) else (wrap64 (t110 + 1))) = ji6 := hji6
    obtain rfl := Option.some.inj H
    go_enter Try.func40, Try.ntmps40
    go_wp2_with (first | ((with_reducible refine gate_dst (N := 2) rfl ?_); refine box_event ?hg (N := 2) ?hd (cs := #[.slice A0_0 l0_0.length c0_0, .slice A0_1 l0_1.length c0_1]) (t := 26) ?hr ?_; (case hd => rfl); (case hg => rfl); (case hr => first | (go_simp; done) | (go_simp; rfl)); intro gb109 hg w7 hbox hb; have n0_ := Aside0.mk (below_step (by repeat (first | (with_reducible first | exact HB.out | apply below_alloc | apply pw_below_drewN | apply below_drew1) | exact HB.out)) hb); have n1_ := Aside0.mk (hbox); have n2_ := Aside0.mk ((by rw [hg]; exact (below_size (by repeat (first | (with_reducible first | exact HB.out | apply below_alloc | apply pw_below_drewN | apply below_drew1) | exact HB.out))) : w.heap.size ≤ gb109)); have n3_ := Aside0.mk ((by rw [hg]; exact (below_size (by repeat (first | (with_reducible first | exact HB.out | apply below_alloc | apply pw_below_drewN | apply below_drew1) | exact HB.out))) : w.heap.size ≤ gb109)); clear HB; have HB := n0_; have BK109 := n1_; have GW109 := n2_; have GE109 := n3_; clear n0_ n1_ n2_ n3_; clear hb hbox hg; have hcz8_0 : w7.cell? ⟨gb109, 0, none⟩ = some (.slice A0_0 l0_0.length c0_0) := (blk_cell BK109.out 0).trans rfl; have hcz8_1 : w7.cell? ⟨gb109, 1, none⟩ = some (.slice A0_1 l0_1.length c0_1) := (blk_cell BK109.out 1).trans rfl; have hfz8_0 := blk_frozen BK109.out 0; have hfz8_1 := blk_frozen BK109.out 1) | ((with_reducible refine gate_callee (f := 97) rfl ?_); refine goesL_ (some 11) rfl rfl Try.func97 (by kernel_rfl) rfl #[.slice A0_0 l0_0.length c0_0, .int .i64 a1] rfl (by (try simp only [List.map_toArray, List.map_cons, List.map_nil]); first | done | rfl | (simp only [List.length_drop, List.length_take]; rfl)) ?_; (with_reducible refine (slices_BinarySearch_int64_int64.calls k _ _ l0_0 a1 t110 true _ ?side1 ?side2 A3.out).mono ?_); (case side1 => repeat (first | exact (Kd.C_below HR0_0.out HB.out) | (with_reducible refine Kd.C_alloc ?_ _) | (with_reducible refine Kd.C_drewN ?_ _) | (with_reducible refine Kd.C_drew ?_))); (case side2 => exact HC0_0.out); rintro e w' ⟨rfl, ⟨nd, rfl⟩⟩; refine ⟨_, rfl, ?_⟩))
    go_ret
    exact ⟨by first | rfl | (simp [errW_none, errW_some] <;> rfl) | (simp only [← hji5, ← hji6]; first | rfl | (simp [errW_none, errW_some] <;> rfl)) | (simp [*, errW_none, errW_some] <;> rfl), by repeat (first | (with_reducible first | exact HB.out | apply below_alloc | apply pw_below_drewN | apply below_drew1 | refine below_set ?_ GE109.out) | exact HB.out)⟩
  · replace c4 := Bool.eq_false_iff.mpr c4
    subst c4
    have H1 : (some (mn t110 (mx (wrap64 ((l0_1.length : Int) - 1)) 0))) = some r := by rw [if_neg (show ¬ (false = true) by decide)] at H; exact H
    clear H
    have H := H1
    clear H1
    obtain ⟨ji9, hji9⟩ : ∃ j_ : Int, (mx (wrap64 ((l0_1.length : Int) - 1)) 0) = j_ := ⟨_, rfl⟩
    replace H : (some (mn t110 (ji9))) = some r := by first | (rw [hji9] at H; exact H) | (simp only [hji9] at H ⊢; exact H)
    (try rw [hji9] at A3)
    (try (have hji9l : 0 ≤ ji9 := by (rw [← hji9]; unfold mx; (repeat' split) <;> omega)))
    (try (have hji9m : 0 ≤ ji9 := by omega))
    have hji9_ : (if (wrap64 ((l0_1.length : Int) - 1)) < 0 then 0 else (wrap64 ((l0_1.length : Int) - 1))) = ji9 := hji9
    obtain ⟨ji10, hji10⟩ : ∃ j_ : Int, (mn t110 (ji9)) = j_ := ⟨_, rfl⟩
    replace H : (some ji10) = some r := by first | (rw [hji10] at H; exact H) | (simp only [hji10] at H ⊢; exact H)
    (try rw [hji10] at A3)
    have hji10_ : (if (ji9) < t110 then (ji9) else t110) = ji10 := hji10
    obtain rfl := Option.some.inj H
    go_enter Try.func40, Try.ntmps40
    go_wp2_with (first | ((with_reducible refine gate_dst (N := 2) rfl ?_); refine box_event ?hg (N := 2) ?hd (cs := #[.slice A0_0 l0_0.length c0_0, .slice A0_1 l0_1.length c0_1]) (t := 26) ?hr ?_; (case hd => rfl); (case hg => rfl); (case hr => first | (go_simp; done) | (go_simp; rfl)); intro gb109 hg w11 hbox hb; have n0_ := Aside0.mk (below_step (by repeat (first | (with_reducible first | exact HB.out | apply below_alloc | apply pw_below_drewN | apply below_drew1) | exact HB.out)) hb); have n1_ := Aside0.mk (hbox); have n2_ := Aside0.mk ((by rw [hg]; exact (below_size (by repeat (first | (with_reducible first | exact HB.out | apply below_alloc | apply pw_below_drewN | apply below_drew1) | exact HB.out))) : w.heap.size ≤ gb109)); have n3_ := Aside0.mk ((by rw [hg]; exact (below_size (by repeat (first | (with_reducible first | exact HB.out | apply below_alloc | apply pw_below_drewN | apply below_drew1) | exact HB.out))) : w.heap.size ≤ gb109)); clear HB; have HB := n0_; have BK109 := n1_; have GW109 := n2_; have GE109 := n3_; clear n0_ n1_ n2_ n3_; clear hb hbox hg; have hcz12_0 : w11.cell? ⟨gb109, 0, none⟩ = some (.slice A0_0 l0_0.length c0_0) := (blk_cell BK109.out 0).trans rfl; have hcz12_1 : w11.cell? ⟨gb109, 1, none⟩ = some (.slice A0_1 l0_1.length c0_1) := (blk_cell BK109.out 1).trans rfl; have hfz12_0 := blk_frozen BK109.out 0; have hfz12_1 := blk_frozen BK109.out 1) | ((with_reducible refine gate_callee (f := 97) rfl ?_); refine goesL_ (some 11) rfl rfl Try.func97 (by kernel_rfl) rfl #[.slice A0_0 l0_0.length c0_0, .int .i64 a1] rfl (by (try simp only [List.map_toArray, List.map_cons, List.map_nil]); first | done | rfl | (simp only [List.length_drop, List.length_take]; rfl)) ?_; (with_reducible refine (slices_BinarySearch_int64_int64.calls k _ _ l0_0 a1 t110 false _ ?side1 ?side2 A3.out).mono ?_); (case side1 => repeat (first | exact (Kd.C_below HR0_0.out HB.out) | (with_reducible refine Kd.C_alloc ?_ _) | (with_reducible refine Kd.C_drewN ?_ _) | (with_reducible refine Kd.C_drew ?_))); (case side2 => exact HC0_0.out); rintro e w' ⟨rfl, ⟨nd, rfl⟩⟩; refine ⟨_, rfl, ?_⟩))
    go_ret
    exact ⟨by first | rfl | (simp [errW_none, errW_some] <;> rfl) | (simp only [← hji9, ← hji10]; first | rfl | (simp [errW_none, errW_some] <;> rfl)) | (simp [*, errW_none, errW_some] <;> rfl), by repeat (first | (with_reducible first | exact HB.out | apply below_alloc | apply pw_below_drewN | apply below_drew1 | refine below_set ?_ GE109.out) | exact HB.out)⟩

end Go.Proofs.Ytkoiffkonjpoiaa.Q
