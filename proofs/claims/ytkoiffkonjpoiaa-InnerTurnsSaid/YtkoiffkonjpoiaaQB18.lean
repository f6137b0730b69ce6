/- Go functions of the program as plain Lean functions, and for each the contract that the call comes to its answers; written by a turned print of this session. -/
import Derived.Test.YtkoiffkonjpoiaaQ0
import Derived.Test.YtkoiffkonjpoiaaQB10
import Derived.Test.YtkoiffkonjpoiaaQB9
namespace Go.Proofs.Ytkoiffkonjpoiaa.Q
open Go.RowKit Go.Proofs.YtkoiffkonjpoiaaW.PrintWords Go.Proofs.YtkoiffkonjpoiaaW.PrintLast Go.Proofs.YtkoiffkonjpoiaaW.PrintMore Go.Proofs.YtkoiffkonjpoiaaX
attribute [local go_sem] max2_int min2_int max_two min_two max_three min_three max_four min_four   -- for this text's walks alone
set_option linter.unusedVariables false
set_option linter.unusedSimpArgs false

/-! ### inner_Inner_Turned: function 56 (by hand) -/
/-- Two ways and the key between by others. -/
def inner_Inner_Turned.j0 : Nat → Int → Int → Int → Int → Bool → List Int → List Int → Option (List Int × List Int)
  | 0, _, _, _, _, _, _, _ => none
  | k + 1, x1, x2, x3, x4, x20, K, W => if x20 = true then some (K, W) else if 0 ≤ x1 ∧ x1 + 1 < (W.length : Int) ∧ x1 < (K.length : Int) ∧ (W.length : Int) < 1000000 then some (K.set x1.toNat x3, (W.set x1.toNat x2).set (x1.toNat + 1) x4) else none
def inner_Inner_Turned.f (l0_0 : List Int) (l0_1 : List Int) (a1 a2 a3 a4 : Int) : Option (List Int × List Int) := (inner_Inner_clone.f l0_0 l0_1).bind fun bt1180 => ((inner_Inner_in.f l0_0 l0_1 a1).bind fun t1187 => (if t1187 = true then ((inner_Inner_in.f l0_0 l0_1 (wrap64 (a1 + 1))).bind fun t1188 => (inner_Inner_Turned.j0 1 a1 a2 a3 a4 (!t1188) bt1180.1 bt1180.2)) else (inner_Inner_Turned.j0 1 a1 a2 a3 a4 true bt1180.1 bt1180.2)))
set_option maxHeartbeats 8000000 in
set_option maxRecDepth 100000 in
theorem inner_Inner_Turned.calls (A0_0 : Option Addr) (c0_0 : Nat) (l0_0 : List Int) (A0_1 : Option Addr) (c0_1 : Nat) (l0_1 : List Int) (a1 : Int) (a2 a3 a4 : Int) (r1 : List Int) (r2 : List Int) (w : World) (hr0_0 : Kd.C (Kd.int .i64) w A0_0 l0_0.length l0_0) (hc0_0 : l0_0.length ≤ c0_0) (hr0_1 : Kd.C (Kd.int .i64) w A0_1 l0_1.length l0_1) (hc0_1 : l0_1.length ≤ c0_1) (h : inner_Inner_Turned.f l0_0 l0_1 a1 a2 a3 a4 = some (r1, r2)) :
    Calls Try.prog 56 #[.agg #[.slice A0_0 l0_0.length c0_0, .slice A0_1 l0_1.length c0_1], .int .i64 a1, .int .i64 a2, .int .i64 a3, .int .i64 a4] w fun e w' => ∃ v0_ v1_ : Value, e = .returned (.agg #[v0_, v1_]) ∧ Kd.R (Kd.int .i64) 2 w' w.heap.size (fun _ => True) v0_ r1 ∧ Kd.R (Kd.int .i64) 47 w' w.heap.size (fun _ => True) v1_ r2 ∧ Below w.heap.size w w' := by
  have hu26 := Try.underlying26
  have HR0_0 := Aside0.mk hr0_0
  have HC0_0 := Aside0.mk hc0_0
  clear hr0_0 hc0_0
  have HR0_1 := Aside0.mk hr0_1
  have HC0_1 := Aside0.mk hc0_1
  clear hr0_1 hc0_1
  have HB := Aside0.mk (Below.refl w.heap.size w)
  have H : ((inner_Inner_clone.f l0_0 l0_1).bind fun bt1180 => ((inner_Inner_in.f l0_0 l0_1 a1).bind fun t1187 => (if t1187 = true then ((inner_Inner_in.f l0_0 l0_1 (wrap64 (a1 + 1))).bind fun t1188 => (inner_Inner_Turned.j0 1 a1 a2 a3 a4 (!t1188) bt1180.1 bt1180.2)) else (inner_Inner_Turned.j0 1 a1 a2 a3 a4 true bt1180.1 bt1180.2)))) = some (r1, r2) := h
  clear h
  replace H := Option.bind_eq_some_iff.mp H
  obtain ⟨⟨t1180, t1183⟩, A40, H⟩ := H
  replace H : ((inner_Inner_in.f l0_0 l0_1 a1).bind fun t1187 => (if t1187 = true then ((inner_Inner_in.f l0_0 l0_1 (wrap64 (a1 + 1))).bind fun t1188 => (inner_Inner_Turned.j0 1 a1 a2 a3 a4 (!t1188) t1180 t1183)) else (inner_Inner_Turned.j0 1 a1 a2 a3 a4 true t1180 t1183))) = some (r1, r2) := H
  have A4 := Aside0.mk A40
  clear A40
  have HC5 := Aside0.mk H
  clear H
  go_enter Try.func56, Try.ntmps56
  go_upto_region 2 with (first | ((with_reducible refine gate_dst (N := 5) rfl ?_); refine box_event ?hg (N := 5) ?hd (cs := #[.slice A0_0 l0_0.length c0_0, .slice A0_1 l0_1.length c0_1]) (t := 26) ?hr ?_; (case hd => rfl); (case hg => rfl); (case hr => first | (go_simp; done) | (go_simp; rfl)); intro gb1178 hg w6 hbox hb; have n0_ := Aside0.mk (below_step (by repeat (first | (with_reducible first | exact HB.out | apply below_alloc | apply pw_below_drewN | apply below_drew1) | exact HB.out)) hb); have n1_ := Aside0.mk (hbox); have n2_ := Aside0.mk ((by rw [hg]; exact (below_size (by repeat (first | (with_reducible first | exact HB.out | apply below_alloc | apply pw_below_drewN | apply below_drew1) | exact HB.out))) : w.heap.size ≤ gb1178)); have n3_ := Aside0.mk ((by rw [hg]; exact (below_size (by repeat (first | (with_reducible first | exact HB.out | apply below_alloc | apply pw_below_drewN | apply below_drew1) | exact HB.out))) : w.heap.size ≤ gb1178)); clear HB; have HB := n0_; have BK1178 := n1_; have GW1178 := n2_; have GE1178 := n3_; clear n0_ n1_ n2_ n3_; clear hb hbox hg) | ((with_reducible refine gate_dst (N := 10) rfl ?_); refine box_event ?hg (N := 10) ?hd (cs := #[.slice none 0 0, .slice none 0 0]) (t := 26) ?hr ?_; (case hd => rfl); (case hg => rfl); (case hr => first | (go_simp; done) | (go_simp; rfl)); intro gb1179 hg w7 hbox hb; have n0_ := Aside0.mk (blk_below (g := gb1178) (o := .cells #[.slice A0_0 l0_0.length c0_0, .slice A0_1 l0_1.length c0_1] 26 (0, 0)) (by (with_reducible repeat (first | refine blk_drewN ?_ _ | refine blk_drew ?_ | refine blk_alloc ?_ _)); exact BK1178.out) hb); have n1_ := Aside0.mk (below_step (by repeat (first | (with_reducible first | exact HB.out | apply below_alloc | apply pw_below_drewN | apply below_drew1 | refine below_set ?_ GE1178.out) | exact HB.out)) hb); have n2_ := Aside0.mk (hbox); have n3_ := Aside0.mk ((by rw [hg]; exact (below_size (by repeat (first | (with_reducible first | exact HB.out | apply below_alloc | apply pw_below_drewN | apply below_drew1 | refine below_set ?_ GE1178.out) | exact HB.out))) : w.heap.size ≤ gb1179)); have n4_ := Aside0.mk ((by rw [hg]; exact (below_size (by repeat (first | (with_reducible first | exact HB.out | apply below_alloc | apply pw_below_drewN | apply below_drew1 | refine below_set ?_ GE1178.out) | exact HB.out))) : w.heap.size ≤ gb1179)); have n5_ := Aside0.mk ((by rw [hg]; exact Nat.ne_of_lt (blk_lt (g := gb1178) (o := .cells #[.slice A0_0 l0_0.length c0_0, .slice A0_1 l0_1.length c0_1] 26 (0, 0)) (by (with_reducible repeat (first | refine blk_drewN ?_ _ | refine blk_drew ?_ | refine blk_alloc ?_ _)); exact BK1178.out)) : gb1178 ≠ gb1179)); have n6_ := Aside0.mk ((by rw [hg]; exact Nat.ne_of_gt (blk_lt (g := gb1178) (o := .cells #[.slice A0_0 l0_0.length c0_0, .slice A0_1 l0_1.length c0_1] 26 (0, 0)) (by (with_reducible repeat (first | refine blk_drewN ?_ _ | refine blk_drew ?_ | refine blk_alloc ?_ _)); exact BK1178.out)) : gb1179 ≠ gb1178)); clear BK1178; clear HB; have BK1178 := n0_; have HB := n1_; have BK1179 := n2_; have GW1179 := n3_; have GE1179 := n4_; have NB1178_1179 := n5_; have NB1179_1178 := n6_; clear n0_ n1_ n2_ n3_ n4_ n5_ n6_; clear hb hbox hg; have hnb8 := NB1178_1179.out; have hnc8 := NB1179_1178.out; have hcz9_0 : w7.cell? ⟨gb1178, 0, none⟩ = some (.slice A0_0 l0_0.length c0_0) := (blk_cell BK1178.out 0).trans rfl; have hcz9_1 : w7.cell? ⟨gb1178, 1, none⟩ = some (.slice A0_1 l0_1.length c0_1) := (blk_cell BK1178.out 1).trans rfl; have hfz9_0 := blk_frozen BK1178.out 0; have hfz9_1 := blk_frozen BK1178.out 1) | ((with_reducible refine gate_callee (f := 100) rfl ?_); refine goesL_ (some 13) rfl rfl Try.func100 (by kernel_rfl) rfl #[.agg #[.slice A0_0 l0_0.length c0_0, .slice A0_1 l0_1.length c0_1]] rfl (by (try simp only [List.map_toArray, List.map_cons, List.map_nil]); first | done | rfl | (simp only [List.length_drop, List.length_take]; rfl)) ?_; (with_reducible refine (inner_Inner_clone.calls _ _ l0_0 _ _ l0_1 t1180 t1183 _ ?side1 ?side2 ?side3 ?side4 A4.out).mono ?_); (case side1 => repeat (first | exact (Kd.C_below HR0_0.out HB.out) | (with_reducible refine Kd.C_alloc ?_ _) | (with_reducible refine Kd.C_drewN ?_ _) | (with_reducible refine Kd.C_drew ?_))); (case side2 => exact HC0_0.out); (case side3 => repeat (first | exact (Kd.C_below HR0_1.out HB.out) | (with_reducible refine Kd.C_alloc ?_ _) | (with_reducible refine Kd.C_drewN ?_ _) | (with_reducible refine Kd.C_drew ?_))); (case side4 => exact HC0_1.out); rintro e w10 ⟨v1181, v1184, rfl, ho0, ho1, hb⟩; refine ⟨_, rfl, ?_⟩; have n0_ := Aside0.mk (Kd.R_lower ho0 (below_size (by repeat (first | (with_reducible first | exact HB.out | apply below_alloc | apply pw_below_drewN | apply below_drew1 | refine below_set ?_ GE1178.out | refine below_set ?_ GE1179.out) | exact HB.out)))); have n1_ := Aside0.mk (Kd.R_lower ho1 (below_size (by repeat (first | (with_reducible first | exact HB.out | apply below_alloc | apply pw_below_drewN | apply below_drew1 | refine below_set ?_ GE1178.out | refine below_set ?_ GE1179.out) | exact HB.out)))); have n2_ := Aside0.mk (blk_below (g := gb1178) (o := .cells #[.slice A0_0 l0_0.length c0_0, .slice A0_1 l0_1.length c0_1] 26 (0, 0)) (by (with_reducible repeat (first | refine blk_drewN ?_ _ | refine blk_drew ?_ | refine blk_alloc ?_ _)); exact BK1178.out) hb); have n3_ := Aside0.mk (blk_below (g := gb1179) (o := .cells #[.slice none 0 0, .slice none 0 0] 26 (0, 0)) (by (with_reducible repeat (first | refine blk_drewN ?_ _ | refine blk_drew ?_ | refine blk_alloc ?_ _)); exact BK1179.out) hb); have n4_ := Aside0.mk (below_step (by repeat (first | (with_reducible first | exact HB.out | apply below_alloc | apply pw_below_drewN | apply below_drew1 | refine below_set ?_ GE1178.out | refine below_set ?_ GE1179.out) | exact HB.out)) hb); clear BK1178; clear BK1179; clear HB; have HO1182 := n0_; have HO1185 := n1_; have BK1178 := n2_; have BK1179 := n3_; have HB := n4_; clear n0_ n1_ n2_ n3_ n4_; (try clear hb); (try clear hb2); (try clear hk); (try clear hi); (try clear ho0); (try clear ho1)) | ((with_reducible refine gate_dst (N := 11) rfl ?_); refine box_event ?hg (N := 11) ?hd (cs := #[.slice none 0 0, .slice none 0 0]) (t := 26) ?hr ?_; (case hd => rfl); (case hg => rfl); (case hr => first | (go_simp; done) | (go_simp; rfl)); intro gb1186 hg w11 hbox hb; have n0_ := Aside0.mk (Kd.R_below (by (with_reducible repeat (first | apply Kd.R_alloc | apply Kd.R_drewN | apply Kd.R_drew)); exact HO1182.out) hb); have n1_ := Aside0.mk (Kd.R_below (by (with_reducible repeat (first | apply Kd.R_alloc | apply Kd.R_drewN | apply Kd.R_drew)); exact HO1185.out) hb); have n2_ := Aside0.mk (blk_below (g := gb1178) (o := .cells #[.slice A0_0 l0_0.length c0_0, .slice A0_1 l0_1.length c0_1] 26 (0, 0)) (by (with_reducible repeat (first | refine blk_drewN ?_ _ | refine blk_drew ?_ | refine blk_alloc ?_ _)); exact BK1178.out) hb); have n3_ := Aside0.mk (blk_below (g := gb1179) (o := .cells #[.slice none 0 0, .slice none 0 0] 26 (0, 0)) (by (with_reducible repeat (first | refine blk_drewN ?_ _ | refine blk_drew ?_ | refine blk_alloc ?_ _)); exact BK1179.out) hb); have n4_ := Aside0.mk (below_step (by repeat (first | (with_reducible first | exact HB.out | apply below_alloc | apply pw_below_drewN | apply below_drew1 | refine below_set ?_ GE1178.out | refine below_set ?_ GE1179.out) | exact HB.out)) hb); have n5_ := Aside0.mk (hbox); have n6_ := Aside0.mk ((by rw [hg]; exact (below_size (by repeat (first | (with_reducible first | exact HB.out | apply below_alloc | apply pw_below_drewN | apply below_drew1 | refine below_set ?_ GE1178.out | refine below_set ?_ GE1179.out) | exact HB.out))) : w.heap.size ≤ gb1186)); have n7_ := Aside0.mk ((by rw [hg]; exact (below_size (by repeat (first | (with_reducible first | exact HB.out | apply below_alloc | apply pw_below_drewN | apply below_drew1 | refine below_set ?_ GE1178.out | refine below_set ?_ GE1179.out) | exact HB.out))) : w.heap.size ≤ gb1186)); have n8_ := Aside0.mk ((by rw [hg]; exact Nat.ne_of_lt (blk_lt (g := gb1178) (o := .cells #[.slice A0_0 l0_0.length c0_0, .slice A0_1 l0_1.length c0_1] 26 (0, 0)) (by (with_reducible repeat (first | refine blk_drewN ?_ _ | refine blk_drew ?_ | refine blk_alloc ?_ _)); exact BK1178.out)) : gb1178 ≠ gb1186)); have n9_ := Aside0.mk ((by rw [hg]; exact Nat.ne_of_gt (blk_lt (g := gb1178) (o := .cells #[.slice A0_0 l0_0.length c0_0, .slice A0_1 l0_1.length c0_1] 26 (0, 0)) (by (with_reducible repeat (first | refine blk_drewN ?_ _ | refine blk_drew ?_ | refine blk_alloc ?_ _)); exact BK1178.out)) : gb1186 ≠ gb1178)); have n10_ := Aside0.mk ((by rw [hg]; exact Nat.ne_of_lt (blk_lt (g := gb1179) (o := .cells #[.slice none 0 0, .slice none 0 0] 26 (0, 0)) (by (with_reducible repeat (first | refine blk_drewN ?_ _ | refine blk_drew ?_ | refine blk_alloc ?_ _)); exact BK1179.out)) : gb1179 ≠ gb1186)); have n11_ := Aside0.mk ((by rw [hg]; exact Nat.ne_of_gt (blk_lt (g := gb1179) (o := .cells #[.slice none 0 0, .slice none 0 0] 26 (0, 0)) (by (with_reducible repeat (first | refine blk_drewN ?_ _ | refine blk_drew ?_ | refine blk_alloc ?_ _)); exact BK1179.out)) : gb1186 ≠ gb1179)); clear HO1182; clear HO1185; clear BK1178; clear BK1179; clear HB; have HO1182 := n0_; have HO1185 := n1_; have BK1178 := n2_; have BK1179 := n3_; have HB := n4_; have BK1186 := n5_; have GW1186 := n6_; have GE1186 := n7_; have NB1178_1186 := n8_; have NB1186_1178 := n9_; have NB1179_1186 := n10_; have NB1186_1179 := n11_; clear n0_ n1_ n2_ n3_ n4_ n5_ n6_ n7_ n8_ n9_ n10_ n11_; clear hb hbox hg; obtain ⟨Ao12, co12, eo12⟩ := Kd.R_slice HO1182.out; subst eo12; have hnb13 := NB1186_1178.out; have hnc13 := NB1178_1186.out; have hnb14 := NB1186_1179.out; have hnc14 := NB1179_1186.out; have hcz15_0 : w11.cell? ⟨gb1186, 0, none⟩ = some (.slice none 0 0) := (blk_cell BK1186.out 0).trans rfl; have hcz15_1 : w11.cell? ⟨gb1186, 1, none⟩ = some (.slice none 0 0) := (blk_cell BK1186.out 1).trans rfl; have hfz15_0 := blk_frozen BK1186.out 0; have hfz15_1 := blk_frozen BK1186.out 1; obtain ⟨Ao16, co16, eo16⟩ := Kd.R_slice HO1185.out; subst eo16))
  (try simp only [Act.put, List.setIfInBounds_toArray, List.set_cons_zero, List.set_cons_succ])
  go_cut [24] (fun v20 wc => ∃ (kq : Nat) (x20_4 : Bool), v20 = .bool x20_4 ∧ Aside0 (inner_Inner_Turned.j0 kq a1 a2 a3 a4 x20_4 t1180 t1183 = some (r1, r2)) ∧ Aside0 (kq ≤ 1) ∧ Aside0 (Kd.R (Kd.int .i64) 2 wc w.heap.size (fun _ => True) (.slice Ao12 t1180.length co12) t1180) ∧ Aside0 (Kd.R (Kd.int .i64) 47 wc w.heap.size (fun _ => True) (.slice Ao16 t1183.length co16) t1183) ∧ Aside0 (wc.heap[gb1178]? = some (.cells #[(.slice A0_0 l0_0.length c0_0), (.slice A0_1 l0_1.length c0_1)] 26 (0, 0))) ∧ Aside0 (wc.heap[gb1179]? = some (.cells #[(.slice none 0 0), (.slice none 0 0)] 26 (0, 0))) ∧ Aside0 (wc.heap[gb1186]? = some (.cells #[(.slice Ao12 t1180.length co12), (.slice Ao16 t1183.length co16)] 26 (0, 0))) ∧ Aside0 (Below w.heap.size w wc))
  case first =>
    have H := HC5.out
    clear HC5
    replace H := Option.bind_eq_some_iff.mp H
    obtain ⟨t1187, A170, H⟩ := H
    replace H : (if t1187 = true then ((inner_Inner_in.f l0_0 l0_1 (wrap64 (a1 + 1))).bind fun t1188 => (inner_Inner_Turned.j0 1 a1 a2 a3 a4 (!t1188) t1180 t1183)) else (inner_Inner_Turned.j0 1 a1 a2 a3 a4 true t1180 t1183)) = some (r1, r2) := H
    have A17 := Aside0.mk A170
    clear A170
    by_cases c18 : t1187 = true
    · subst c18
      have H1 : ((inner_Inner_in.f l0_0 l0_1 (wrap64 (a1 + 1))).bind fun t1188 => (inner_Inner_Turned.j0 1 a1 a2 a3 a4 (!t1188) t1180 t1183)) = some (r1, r2) := by rw [if_pos rfl] at H; exact H
      clear H
      have H := H1
      clear H1
      replace H := Option.bind_eq_some_iff.mp H
      obtain ⟨t1188, A190, H⟩ := H
      replace H : (inner_Inner_Turned.j0 1 a1 a2 a3 a4 (!t1188) t1180 t1183) = some (r1, r2) := H
      have A19 := Aside0.mk A190
      clear A190
      have H' := Aside0.mk H
      clear H
      have hnb20 := NB1178_1179.out
      have hnc20 := NB1179_1178.out
      have hnb21 := NB1178_1186.out
      have hnc21 := NB1186_1178.out
      have hcz22_0 : w11.cell? ⟨gb1178, 0, none⟩ = some (.slice A0_0 l0_0.length c0_0) := (blk_cell BK1178.out 0).trans rfl
      have hcz22_1 : w11.cell? ⟨gb1178, 1, none⟩ = some (.slice A0_1 l0_1.length c0_1) := (blk_cell BK1178.out 1).trans rfl
      have hfz22_0 := blk_frozen BK1178.out 0
      have hfz22_1 := blk_frozen BK1178.out 1
      go_wp2_with (first | ((with_reducible refine gate_callee (f := 101) rfl ?_); refine goesL_ (some 16) rfl rfl Try.func101 (by kernel_rfl) rfl #[.agg #[.slice A0_0 l0_0.length c0_0, .slice A0_1 l0_1.length c0_1], .int .i64 a1] rfl (by (try simp only [List.map_toArray, List.map_cons, List.map_nil]); first | done | rfl | (simp only [List.length_drop, List.length_take]; rfl)) ?_; (with_reducible refine (inner_Inner_in.calls _ _ l0_0 _ _ l0_1 a1 true _ ?side1 ?side2 ?side3 ?side4 A17.out).mono ?_); (case side1 => exact Kd.C_below HR0_0.out (by repeat (first | (with_reducible first | exact HB.out | apply below_alloc | apply pw_below_drewN | apply below_drew1 | refine below_set ?_ GE1178.out | refine below_set ?_ GE1179.out | refine below_set ?_ GE1186.out) | exact HB.out))); (case side2 => exact HC0_0.out); (case side3 => exact Kd.C_below HR0_1.out (by repeat (first | (with_reducible first | exact HB.out | apply below_alloc | apply pw_below_drewN | apply below_drew1 | refine below_set ?_ GE1178.out | refine below_set ?_ GE1179.out | refine below_set ?_ GE1186.out) | exact HB.out))); (case side4 => exact HC0_1.out); rintro e w23 ⟨rfl, hb⟩; refine ⟨_, rfl, ?_⟩; have n0_ := Aside0.mk (Kd.R_below (by (with_reducible repeat (first | apply Kd.R_alloc | apply Kd.R_drewN | apply Kd.R_drew)); exact (Kd.R_mono (Kd.R_far (p := ⟨gb1186, 1, none⟩) (Kd.R_far (p := ⟨gb1186, 0, none⟩) (Kd.R_types HO1182.out BK1186.out (by decide)) (fun _ hk => hk.2) (.slice Ao12 t1180.length co12)) (fun _ hk => hk.2) (.slice Ao16 t1183.length co16)) (fun _ h_ => h_.1))) hb); have n1_ := Aside0.mk (Kd.R_below (by (with_reducible repeat (first | apply Kd.R_alloc | apply Kd.R_drewN | apply Kd.R_drew)); exact (Kd.R_mono (Kd.R_far (p := ⟨gb1186, 1, none⟩) (Kd.R_far (p := ⟨gb1186, 0, none⟩) (Kd.R_types HO1185.out BK1186.out (by decide)) (fun _ hk => hk.2) (.slice Ao12 t1180.length co12)) (fun _ hk => hk.2) (.slice Ao16 t1183.length co16)) (fun _ h_ => h_.1))) hb); have n2_ := Aside0.mk (blk_below (g := gb1178) (o := .cells #[.slice A0_0 l0_0.length c0_0, .slice A0_1 l0_1.length c0_1] 26 (0, 0)) (by (with_reducible repeat (first | refine blk_drewN ?_ _ | refine blk_drew ?_ | refine blk_alloc ?_ _)); refine blk_far ?_ NB1178_1186.out _; (with_reducible repeat (first | refine blk_drewN ?_ _ | refine blk_drew ?_ | refine blk_alloc ?_ _)); refine blk_far ?_ NB1178_1186.out _; (with_reducible repeat (first | refine blk_drewN ?_ _ | refine blk_drew ?_ | refine blk_alloc ?_ _)); exact BK1178.out) hb); have n3_ := Aside0.mk (blk_below (g := gb1179) (o := .cells #[.slice none 0 0, .slice none 0 0] 26 (0, 0)) (by (with_reducible repeat (first | refine blk_drewN ?_ _ | refine blk_drew ?_ | refine blk_alloc ?_ _)); refine blk_far ?_ NB1179_1186.out _; (with_reducible repeat (first | refine blk_drewN ?_ _ | refine blk_drew ?_ | refine blk_alloc ?_ _)); refine blk_far ?_ NB1179_1186.out _; (with_reducible repeat (first | refine blk_drewN ?_ _ | refine blk_drew ?_ | refine blk_alloc ?_ _)); exact BK1179.out) hb); have n4_ := Aside0.mk (blk_below (g := gb1186) (o := .cells #[.slice Ao12 t1180.length co12, .slice Ao16 t1183.length co16] 26 (0, 0)) (by (with_reducible repeat (first | refine blk_drewN ?_ _ | refine blk_drew ?_ | refine blk_alloc ?_ _)); refine blk_put (cs := #[.slice Ao12 t1180.length co12, .slice none 0 0]) ?_ 1 _ rfl; (with_reducible repeat (first | refine blk_drewN ?_ _ | refine blk_drew ?_ | refine blk_alloc ?_ _)); refine blk_put (cs := #[.slice none 0 0, .slice none 0 0]) ?_ 0 _ rfl; (with_reducible repeat (first | refine blk_drewN ?_ _ | refine blk_drew ?_ | refine blk_alloc ?_ _)); exact BK1186.out) hb); have n5_ := Aside0.mk (below_step (by repeat (first | (with_reducible first | exact HB.out | apply below_alloc | apply pw_below_drewN | apply below_drew1 | refine below_set ?_ GE1178.out | refine below_set ?_ GE1179.out | refine below_set ?_ GE1186.out) | exact HB.out)) hb); clear HO1182; clear HO1185; clear BK1178; clear BK1179; clear BK1186; clear HB; have HO1182 := n0_; have HO1185 := n1_; have BK1178 := n2_; have BK1179 := n3_; have BK1186 := n4_; have HB := n5_; clear n0_ n1_ n2_ n3_ n4_ n5_; (try clear hb); (try clear hb2); (try clear hk); (try clear hi); have hcz24_0 : w23.cell? ⟨gb1178, 0, none⟩ = some (.slice A0_0 l0_0.length c0_0) := (blk_cell BK1178.out 0).trans rfl; have hcz24_1 : w23.cell? ⟨gb1178, 1, none⟩ = some (.slice A0_1 l0_1.length c0_1) := (blk_cell BK1178.out 1).trans rfl; have hfz24_0 := blk_frozen BK1178.out 0; have hfz24_1 := blk_frozen BK1178.out 1) | (go_at_call 101; (with_reducible refine (inner_Inner_in.calls _ _ l0_0 _ _ l0_1 (wrap64 (a1 + 1)) t1188 _ ?side1 ?side2 ?side3 ?side4 A19.out).mono ?_); (case side1 => repeat (first | exact (Kd.C_below HR0_0.out HB.out) | (with_reducible refine Kd.C_alloc ?_ _) | (with_reducible refine Kd.C_drewN ?_ _) | (with_reducible refine Kd.C_drew ?_))); (case side2 => exact HC0_0.out); (case side3 => repeat (first | exact (Kd.C_below HR0_1.out HB.out) | (with_reducible refine Kd.C_alloc ?_ _) | (with_reducible refine Kd.C_drewN ?_ _) | (with_reducible refine Kd.C_drew ?_))); (case side4 => exact HC0_1.out); rintro e w25 ⟨rfl, hb⟩; have n0_ := Aside0.mk (Kd.R_below (by (with_reducible repeat (first | apply Kd.R_alloc | apply Kd.R_drewN | apply Kd.R_drew)); exact HO1182.out) hb); have n1_ := Aside0.mk (Kd.R_below (by (with_reducible repeat (first | apply Kd.R_alloc | apply Kd.R_drewN | apply Kd.R_drew)); exact HO1185.out) hb); have n2_ := Aside0.mk (blk_below (g := gb1178) (o := .cells #[.slice A0_0 l0_0.length c0_0, .slice A0_1 l0_1.length c0_1] 26 (0, 0)) (by (with_reducible repeat (first | refine blk_drewN ?_ _ | refine blk_drew ?_ | refine blk_alloc ?_ _)); exact BK1178.out) hb); have n3_ := Aside0.mk (blk_below (g := gb1179) (o := .cells #[.slice none 0 0, .slice none 0 0] 26 (0, 0)) (by (with_reducible repeat (first | refine blk_drewN ?_ _ | refine blk_drew ?_ | refine blk_alloc ?_ _)); exact BK1179.out) hb); have n4_ := Aside0.mk (blk_below (g := gb1186) (o := .cells #[.slice Ao12 t1180.length co12, .slice Ao16 t1183.length co16] 26 (0, 0)) (by (with_reducible repeat (first | refine blk_drewN ?_ _ | refine blk_drew ?_ | refine blk_alloc ?_ _)); exact BK1186.out) hb); have n5_ := Aside0.mk (below_step (by repeat (first | (with_reducible first | exact HB.out | apply below_alloc | apply pw_below_drewN | apply below_drew1 | refine below_set ?_ GE1178.out | refine below_set ?_ GE1179.out | refine below_set ?_ GE1186.out) | exact HB.out)) hb); clear HO1182; clear HO1185; clear BK1178; clear BK1179; clear BK1186; clear HB; have HO1182 := n0_; have HO1185 := n1_; have BK1178 := n2_; have BK1179 := n3_; have BK1186 := n4_; have HB := n5_; clear n0_ n1_ n2_ n3_ n4_ n5_; (try clear hb); (try clear hb2); (try clear hk); (try clear hi)))
      go_meet
      case rel => exact ⟨_, (!t1188), (by first | rfl | (simp; done) | (simp [*]; done)), H', ⟨by first | omega | exact Nat.le_refl _⟩, ⟨by (with_reducible repeat (first | apply Kd.R_alloc | apply Kd.R_drewN | apply Kd.R_drew)); exact HO1182.out⟩, ⟨by (with_reducible repeat (first | apply Kd.R_alloc | apply Kd.R_drewN | apply Kd.R_drew)); exact HO1185.out⟩, ⟨by (with_reducible repeat (first | refine blk_drewN ?_ _ | refine blk_drew ?_ | refine blk_alloc ?_ _)); exact BK1178.out⟩, ⟨by (with_reducible repeat (first | refine blk_drewN ?_ _ | refine blk_drew ?_ | refine blk_alloc ?_ _)); exact BK1179.out⟩, ⟨by (with_reducible repeat (first | refine blk_drewN ?_ _ | refine blk_drew ?_ | refine blk_alloc ?_ _)); exact BK1186.out⟩, ⟨by repeat (first | (with_reducible first | exact HB.out | apply below_alloc | apply pw_below_drewN | apply below_drew1 | refine below_set ?_ GE1178.out | refine below_set ?_ GE1179.out | refine below_set ?_ GE1186.out) | exact HB.out)⟩⟩
    · replace c18 := Bool.eq_false_iff.mpr c18
      subst c18
      have H1 : (inner_Inner_Turned.j0 1 a1 a2 a3 a4 true t1180 t1183) = some (r1, r2) := by rw [if_neg (show ¬ (false = true) by decide)] at H; exact H
      clear H
      have H := H1
      clear H1
      have H' := Aside0.mk H
      clear H
      have hnb26 := NB1178_1179.out
      have hnc26 := NB1179_1178.out
      have hnb27 := NB1178_1186.out
      have hnc27 := NB1186_1178.out
      have hcz28_0 : w11.cell? ⟨gb1178, 0, none⟩ = some (.slice A0_0 l0_0.length c0_0) := (blk_cell BK1178.out 0).trans rfl
      have hcz28_1 : w11.cell? ⟨gb1178, 1, none⟩ = some (.slice A0_1 l0_1.length c0_1) := (blk_cell BK1178.out 1).trans rfl
      have hfz28_0 := blk_frozen BK1178.out 0
      have hfz28_1 := blk_frozen BK1178.out 1
      go_wp2_with (first | ((with_reducible refine gate_callee (f := 101) rfl ?_); refine goesL_ (some 16) rfl rfl Try.func101 (by kernel_rfl) rfl #[.agg #[.slice A0_0 l0_0.length c0_0, .slice A0_1 l0_1.length c0_1], .int .i64 a1] rfl (by (try simp only [List.map_toArray, List.map_cons, List.map_nil]); first | done | rfl | (simp only [List.length_drop, List.length_take]; rfl)) ?_; (with_reducible refine (inner_Inner_in.calls _ _ l0_0 _ _ l0_1 a1 false _ ?side1 ?side2 ?side3 ?side4 A17.out).mono ?_); (case side1 => exact Kd.C_below HR0_0.out (by repeat (first | (with_reducible first | exact HB.out | apply below_alloc | apply pw_below_drewN | apply below_drew1 | refine below_set ?_ GE1178.out | refine below_set ?_ GE1179.out | refine below_set ?_ GE1186.out) | exact HB.out))); (case side2 => exact HC0_0.out); (case side3 => exact Kd.C_below HR0_1.out (by repeat (first | (with_reducible first | exact HB.out | apply below_alloc | apply pw_below_drewN | apply below_drew1 | refine below_set ?_ GE1178.out | refine below_set ?_ GE1179.out | refine below_set ?_ GE1186.out) | exact HB.out))); (case side4 => exact HC0_1.out); rintro e w29 ⟨rfl, hb⟩; refine ⟨_, rfl, ?_⟩; have n0_ := Aside0.mk (Kd.R_below (by (with_reducible repeat (first | apply Kd.R_alloc | apply Kd.R_drewN | apply Kd.R_drew)); exact (Kd.R_mono (Kd.R_far (p := ⟨gb1186, 1, none⟩) (Kd.R_far (p := ⟨gb1186, 0, none⟩) (Kd.R_types HO1182.out BK1186.out (by decide)) (fun _ hk => hk.2) (.slice Ao12 t1180.length co12)) (fun _ hk => hk.2) (.slice Ao16 t1183.length co16)) (fun _ h_ => h_.1))) hb); have n1_ := Aside0.mk (Kd.R_below (by (with_reducible repeat (first | apply Kd.R_alloc | apply Kd.R_drewN | apply Kd.R_drew)); exact (Kd.R_mono (Kd.R_far (p := ⟨gb1186, 1, none⟩) (Kd.R_far (p := ⟨gb1186, 0, none⟩) (Kd.R_types HO1185.out BK1186.out (by decide)) (fun _ hk => hk.2) (.slice Ao12 t1180.length co12)) (fun _ hk => hk.2) (.slice Ao16 t1183.length co16)) (fun _ h_ => h_.1))) hb); have n2_ := Aside0.mk (blk_below (g := gb1178) (o := .cells #[.slice A0_0 l0_0.length c0_0, .slice A0_1 l0_1.length c0_1] 26 (0, 0)) (by (with_reducible repeat (first | refine blk_drewN ?_ _ | refine blk_drew ?_ | refine blk_alloc ?_ _)); refine blk_far ?_ NB1178_1186.out _; (with_reducible repeat (first | refine blk_drewN ?_ _ | refine blk_drew ?_ | refine blk_alloc ?_ _)); refine blk_far ?_ NB1178_1186.out _; (with_reducible repeat (first | refine blk_drewN ?_ _ | refine blk_drew ?_ | refine blk_alloc ?_ _)); exact BK1178.out) hb); have n3_ := Aside0.mk (blk_below (g := gb1179) (o := .cells #[.slice none 0 0, .slice none 0 0] 26 (0, 0)) (by (with_reducible repeat (first | refine blk_drewN ?_ _ | refine blk_drew ?_ | refine blk_alloc ?_ _)); refine blk_far ?_ NB1179_1186.out _; (with_reducible repeat (first | refine blk_drewN ?_ _ | refine blk_drew ?_ | refine blk_alloc ?_ _)); refine blk_far ?_ NB1179_1186.out _; (with_reducible repeat (first | refine blk_drewN ?_ _ | refine blk_drew ?_ | refine blk_alloc ?_ _)); exact BK1179.out) hb); have n4_ := Aside0.mk (blk_below (g := gb1186) (o := .cells #[.slice Ao12 t1180.length co12, .slice Ao16 t1183.length co16] 26 (0, 0)) (by (with_reducible repeat (first | refine blk_drewN ?_ _ | refine blk_drew ?_ | refine blk_alloc ?_ _)); refine blk_put (cs := #[.slice Ao12 t1180.length co12, .slice none 0 0]) ?_ 1 _ rfl; (with_reducible repeat (first | refine blk_drewN ?_ _ | refine blk_drew ?_ | refine blk_alloc ?_ _)); refine blk_put (cs := #[.slice none 0 0, .slice none 0 0]) ?_ 0 _ rfl; (with_reducible repeat (first | refine blk_drewN ?_ _ | refine blk_drew ?_ | refine blk_alloc ?_ _)); exact BK1186.out) hb); have n5_ := Aside0.mk (below_step (by repeat (first | (with_reducible first | exact HB.out | apply below_alloc | apply pw_below_drewN | apply below_drew1 | refine below_set ?_ GE1178.out | refine below_set ?_ GE1179.out | refine below_set ?_ GE1186.out) | exact HB.out)) hb); clear HO1182; clear HO1185; clear BK1178; clear BK1179; clear BK1186; clear HB; have HO1182 := n0_; have HO1185 := n1_; have BK1178 := n2_; have BK1179 := n3_; have BK1186 := n4_; have HB := n5_; clear n0_ n1_ n2_ n3_ n4_ n5_; (try clear hb); (try clear hb2); (try clear hk); (try clear hi)))
      go_meet
      case rel => exact ⟨_, (true), (by first | rfl | (simp; done) | (simp [*]; done)), H', ⟨by first | omega | exact Nat.le_refl _⟩, ⟨by (with_reducible repeat (first | apply Kd.R_alloc | apply Kd.R_drewN | apply Kd.R_drew)); exact HO1182.out⟩, ⟨by (with_reducible repeat (first | apply Kd.R_alloc | apply Kd.R_drewN | apply Kd.R_drew)); exact HO1185.out⟩, ⟨by (with_reducible repeat (first | refine blk_drewN ?_ _ | refine blk_drew ?_ | refine blk_alloc ?_ _)); exact BK1178.out⟩, ⟨by (with_reducible repeat (first | refine blk_drewN ?_ _ | refine blk_drew ?_ | refine blk_alloc ?_ _)); exact BK1179.out⟩, ⟨by (with_reducible repeat (first | refine blk_drewN ?_ _ | refine blk_drew ?_ | refine blk_alloc ?_ _)); exact BK1186.out⟩, ⟨by repeat (first | (with_reducible first | exact HB.out | apply below_alloc | apply pw_below_drewN | apply below_drew1 | refine below_set ?_ GE1178.out | refine below_set ?_ GE1179.out | refine below_set ?_ GE1186.out) | exact HB.out)⟩⟩
  case rest =>
    clear HC5
    try clear c1
    try clear c2
    try clear p2
    try clear p6
    try clear c8
    try clear c10
    try clear c13
    try clear c14
    try clear c18
    try clear c20
    try clear c21
    try clear c26
    try clear c27
    try clear hcz15_0
    try clear hcz15_1
    try clear hcz22_0
    try clear hcz22_1
    try clear hcz24_0
    try clear hcz24_1
    try clear hcz28_0
    try clear hcz28_1
    try clear hcz9_0
    try clear hcz9_1
    try clear hfz15_0
    try clear hfz15_1
    try clear hfz22_0
    try clear hfz22_1
    try clear hfz24_0
    try clear hfz24_1
    try clear hfz28_0
    try clear hfz28_1
    try clear hfz9_0
    try clear hfz9_1
    obtain ⟨kq, x20_4, rfl, HA, HJ4, HO_1187000, HO_1187001, BK1178, BK1179, BK1186, HB⟩ := hcut
    cases kq with
    | zero => exact absurd HA.out (by simp [inner_Inner_Turned.j0])
    | succ kj4 =>
      have H := HA.out
      clear HA
      simp only [inner_Inner_Turned.j0] at H
      by_cases c30 : x20_4 = true
      · subst c30
        have H1 : (some (t1180, t1183)) = some (r1, r2) := by rw [if_pos rfl] at H; exact H
        clear H
        have H := H1
        clear H1
        simp only [Option.some.injEq, Prod.mk.injEq] at H
        obtain ⟨rfl, rfl⟩ := H
        have hnb31 := NB1186_1178.out
        have hnc31 := NB1178_1186.out
        have hnb32 := NB1186_1179.out
        have hnc32 := NB1179_1186.out
        have hcz33_0 : wc.cell? ⟨gb1186, 0, none⟩ = some (.slice Ao12 t1180.length co12) := (blk_cell BK1186.out 0).trans rfl
        have hcz33_1 : wc.cell? ⟨gb1186, 1, none⟩ = some (.slice Ao16 t1183.length co16) := (blk_cell BK1186.out 1).trans rfl
        have hfz33_0 := blk_frozen BK1186.out 0
        have hfz33_1 := blk_frozen BK1186.out 1
        have hnb34 := NB1179_1178.out
        have hnc34 := NB1178_1179.out
        have hcz35_0 : wc.cell? ⟨gb1179, 0, none⟩ = some (.slice none 0 0) := (blk_cell BK1179.out 0).trans rfl
        have hcz35_1 : wc.cell? ⟨gb1179, 1, none⟩ = some (.slice none 0 0) := (blk_cell BK1179.out 1).trans rfl
        have hfz35_0 := blk_frozen BK1179.out 0
        have hfz35_1 := blk_frozen BK1179.out 1
        go_wp2
        refine bodyPost_ret (results_cell_row rfl _ _ gb1179 26 #[.slice Ao12 t1180.length co12, .slice Ao16 t1183.length co16] (0, 0) _ rfl (by (with_reducible repeat (first | refine blk_drewN ?_ _ | refine blk_drew ?_ | refine blk_alloc ?_ _)); refine blk_put (cs := #[.slice Ao12 t1180.length co12, .slice none 0 0]) ?_ 1 _ rfl; (with_reducible repeat (first | refine blk_drewN ?_ _ | refine blk_drew ?_ | refine blk_alloc ?_ _)); refine blk_put (cs := #[.slice none 0 0, .slice none 0 0]) ?_ 0 _ rfl; (with_reducible repeat (first | refine blk_drewN ?_ _ | refine blk_drew ?_ | refine blk_alloc ?_ _)); exact BK1179.out) Try.underlying26 rfl (by kernel_rfl)) rfl ?_
        exact ⟨_, _, by first | rfl | (simp [errW_none, errW_some] <;> rfl) | (simp [*, errW_none, errW_some] <;> rfl), by (with_reducible repeat (first | apply Kd.R_alloc | apply Kd.R_drewN | apply Kd.R_drew)); exact Kd.R_mono (Kd.R_far (p := ⟨gb1179, 1, none⟩) (Kd.R_far (p := ⟨gb1179, 0, none⟩) (Kd.R_types HO_1187000.out BK1179.out (by decide)) (fun _ hk => hk.2) (.slice Ao12 t1180.length co12)) (fun _ hk => hk.2) (.slice Ao16 t1183.length co16)) (fun _ hk => trivial), by (with_reducible repeat (first | apply Kd.R_alloc | apply Kd.R_drewN | apply Kd.R_drew)); exact Kd.R_mono (Kd.R_far (p := ⟨gb1179, 1, none⟩) (Kd.R_far (p := ⟨gb1179, 0, none⟩) (Kd.R_types HO_1187001.out BK1179.out (by decide)) (fun _ hk => hk.2) (.slice Ao12 t1180.length co12)) (fun _ hk => hk.2) (.slice Ao16 t1183.length co16)) (fun _ hk => trivial), by repeat (first | (with_reducible first | exact HB.out | apply below_alloc | apply pw_below_drewN | apply below_drew1 | refine below_set ?_ GE1178.out | refine below_set ?_ GE1179.out | refine below_set ?_ GE1186.out) | exact HB.out)⟩
      · have c30' : x20_4 = false := Bool.eq_false_iff.mpr c30
        subst c30'
        rw [if_neg (by decide)] at H
        split at H
        · rename_i hg
          obtain ⟨q1, q2, q3, q4⟩ := hg
          obtain ⟨i, rfl⟩ := Int.eq_ofNat_of_zero_le q1
          rw [Int.toNat_natCast] at H
          simp only [Option.some.injEq, Prod.mk.injEq] at H
          obtain ⟨rfl, rfl⟩ := H
          obtain ⟨goW, coW, eoW, gbW, glW, clW, HGW⟩ := Kd.R_form HO_1187001.out (by omega)
          obtain ⟨goK, coK, eoK, gbK, glK, clK, HGK⟩ := Kd.R_form HO_1187000.out (by omega)
          cases eoW
          cases eoK
          obtain ⟨hxW, hfW⟩ := Kd.R_celln 0 HO_1187001.out (i : Int) (by omega) (by omega)
          obtain ⟨hxV, hfV⟩ := Kd.R_celln 0 HO_1187001.out ((i + 1 : Nat) : Int) (by omega) (by omega)
          obtain ⟨hxK, hfK⟩ := Kd.R_celln 0 HO_1187000.out (i : Int) (by omega) (by omega)
          have P1 := Kd.R_putg HO_1187001.out (i : Int) a2
          have hS0 : wc.cell? ⟨gb1186, 0, none⟩ = some (.slice (some ⟨goK, 0, none⟩) t1180.length co12) := (blk_cell BK1186.out 0).trans rfl
          have hS1 : wc.cell? ⟨gb1186, 1, none⟩ = some (.slice (some ⟨goW, 0, none⟩) t1183.length co16) := (blk_cell BK1186.out 1).trans rfl
          have hneW : gb1186 ≠ goW := fun e => Kd.R_ne HO_1187001.out BK1186.out (by decide) (by rw [e]; rfl)
          have hneK : gb1186 ≠ goK := fun e => Kd.R_ne HO_1187000.out BK1186.out (by decide) (by rw [e]; rfl)
          have hneKW : goK ≠ goW := fun e => by rw [e, HGW] at HGK; simp at HGK
          have hw1 : IntKind.i64.wrap ((i : Int) + 1) = ((i + 1 : Nat) : Int) := by rw [IntKind.wrap_i64]; omega
          have n1 : i < t1183.length := by omega
          have n0 : (0 : Int) ≤ (i : Int) + 1 := by omega
          have n2 : i + 1 < t1183.length := by omega
          have n3 : i < t1180.length := by omega
          rw [Int.toNat_natCast] at hxW hfW hxV hfV hxK hfK
          have e1 : ∀ u, (wc.setCell ⟨goW, i, none⟩ u).cell? ⟨goW, i + 1, none⟩ = some (Value.int IntKind.i64 (rdOf 0 t1183 ↑(i + 1))) := fun u => (World.cell?_setCell_other _ _ _ _ (by simp)).trans hxV
          have e2 : ∀ u v, ((wc.setCell ⟨goW, i, none⟩ u).setCell ⟨goW, i + 1, none⟩ v).cell? ⟨goK, i, none⟩ = some (Value.int IntKind.i64 (rdOf 0 t1180 i)) := fun u v => (cell_far (a := ⟨goK, i, none⟩) (p := ⟨goW, _, none⟩) hneKW _).trans ((cell_far (a := ⟨goK, i, none⟩) (p := ⟨goW, _, none⟩) hneKW _).trans hxK)
          have f1 : ∀ u, (wc.setCell ⟨goW, i, none⟩ u).frozen? ⟨goW, i + 1, none⟩ = false := fun u => by rw [World.frozen?_setCell]; exact hfV
          have f2 : ∀ u v, ((wc.setCell ⟨goW, i, none⟩ u).setCell ⟨goW, i + 1, none⟩ v).frozen? ⟨goK, i, none⟩ = false := fun u v => by rw [World.frozen?_setCell, World.frozen?_setCell]; exact hfK
          have hxW' : wc.drew.cell? ⟨goW, i, none⟩ = _ := hxW
          have hfW' : wc.drew.frozen? ⟨goW, i, none⟩ = false := hfW
          go_wp2
          refine start_ (n := 19) (S := fun w' => w'.cell? ⟨gb1186, 0, none⟩ = some (.slice (some ⟨goK, 0, none⟩) t1180.length co12) ∧ w'.cell? ⟨gb1186, 1, none⟩ = some (.slice (some ⟨goW, 0, none⟩) t1183.length co16)) (ds := [18]) #[false, false, false, false, false, false, false, false, false, false, false, false, false, false, false, false, false, false, false] (by kernel_rfl) rfl rfl ⟨hS0, hS1⟩ (fun hHeld => ?_)
          refine pure_ (i := 0) (N := some 26) (v := ?_) (a' := ?_) #[true, false, false, false, false, false, false, false, false, false, false, false, false, false, false, false, false, false, false] rfl rfl (by kernel_rfl) (fun _ _ _ h => h) (Or.inl ⟨by rfl, ?_⟩) ?_ ?_
          rotate_left
          · intro w'
            go_simp
            with_reducible rfl
          rotate_left
          · simp only [Act.put, List.setIfInBounds_toArray, List.set_cons_zero, List.set_cons_succ, i64_w, i32_w]
            rfl
          refine pure_ (i := 2) (N := some 28) (v := ?_) (a' := ?_) #[true, false, true, false, false, false, false, false, false, false, false, false, false, false, false, false, false, false, false] rfl rfl (by kernel_rfl) (fun _ _ _ h => h) (Or.inl ⟨by rfl, ?_⟩) ?_ ?_
          rotate_left
          · intro w'
            go_simp
            with_reducible rfl
          rotate_left
          · simp only [Act.put, List.setIfInBounds_toArray, List.set_cons_zero, List.set_cons_succ, i64_w, i32_w]
            rfl
          refine pure_ (i := 3) (N := some 29) (v := ?_) (a' := ?_) #[true, false, true, true, false, false, false, false, false, false, false, false, false, false, false, false, false, false, false] rfl rfl (by kernel_rfl) (fun _ _ _ h => h) (Or.inl ⟨by rfl, ?_⟩) ?_ ?_
          rotate_left
          · intro w'
            go_simp
            with_reducible rfl
          rotate_left
          · simp only [Act.put, List.setIfInBounds_toArray, List.set_cons_zero, List.set_cons_succ, i64_w, i32_w]
            rfl
          refine pure_ (i := 5) (N := some 31) (v := ?_) (a' := ?_) #[true, false, true, true, false, true, false, false, false, false, false, false, false, false, false, false, false, false, false] rfl rfl (by kernel_rfl) (fun _ _ _ h => h) (Or.inl ⟨by rfl, ?_⟩) ?_ ?_
          rotate_left
          · intro w'
            go_simp
            with_reducible rfl
          rotate_left
          · simp only [Act.put, List.setIfInBounds_toArray, List.set_cons_zero, List.set_cons_succ, i64_w, i32_w]
            rfl
          refine pure_ (i := 6) (N := some 32) (v := ?_) (a' := ?_) #[true, false, true, true, false, true, true, false, false, false, false, false, false, false, false, false, false, false, false] rfl rfl (by kernel_rfl) (fun _ _ _ h => h) (Or.inl ⟨by rfl, ?_⟩) ?_ ?_
          rotate_left
          · intro w'
            go_simp
            with_reducible rfl
          rotate_left
          · simp only [Act.put, List.setIfInBounds_toArray, List.set_cons_zero, List.set_cons_succ, i64_w, i32_w]
            rfl
          refine pure_ (i := 7) (N := some 33) (v := ?_) (a' := ?_) #[true, false, true, true, false, true, true, true, false, false, false, false, false, false, false, false, false, false, false] rfl rfl (by kernel_rfl) (fun _ _ _ h => h) (Or.inl ⟨by rfl, ?_⟩) ?_ ?_
          rotate_left
          · intro w'
            go_simp
            with_reducible rfl
          rotate_left
          · simp only [Act.put, List.setIfInBounds_toArray, List.set_cons_zero, List.set_cons_succ, i64_w, i32_w]
            rfl
          refine pure_ (i := 9) (N := some 35) (v := ?_) (a' := ?_) #[true, false, true, true, false, true, true, true, false, true, false, false, false, false, false, false, false, false, false] rfl rfl (by kernel_rfl) (fun _ _ _ h => h) (Or.inl ⟨by rfl, ?_⟩) ?_ ?_
          rotate_left
          · intro w'
            go_simp
            with_reducible rfl
          rotate_left
          · simp only [Act.put, List.setIfInBounds_toArray, List.set_cons_zero, List.set_cons_succ, i64_w, i32_w]
            rfl
          refine pure_ (i := 10) (N := some 36) (v := ?_) (a' := ?_) #[true, false, true, true, false, true, true, true, false, true, true, false, false, false, false, false, false, false, false] rfl rfl (by kernel_rfl) (fun _ _ _ h => h) (Or.inl ⟨by rfl, ?_⟩) ?_ ?_
          rotate_left
          · intro w'
            go_simp
            with_reducible rfl
          rotate_left
          · simp only [Act.put, List.setIfInBounds_toArray, List.set_cons_zero, List.set_cons_succ, i64_w, i32_w]
            rfl
          refine pure_ (i := 11) (N := some 37) (v := ?_) (a' := ?_) #[true, false, true, true, false, true, true, true, false, true, true, true, false, false, false, false, false, false, false] rfl rfl (by kernel_rfl) (fun _ _ _ h => h) (Or.inl ⟨by rfl, ?_⟩) ?_ ?_
          rotate_left
          · intro w'
            go_simp
            with_reducible rfl
          rotate_left
          · simp only [Act.put, List.setIfInBounds_toArray, List.set_cons_zero, List.set_cons_succ, i64_w, i32_w]
            rfl
          refine pure_ (i := 12) (N := some 38) (v := ?_) (a' := ?_) #[true, false, true, true, false, true, true, true, false, true, true, true, true, false, false, false, false, false, false] rfl rfl (by kernel_rfl) (fun _ _ _ h => h) (Or.inl ⟨by rfl, ?_⟩) ?_ ?_
          rotate_left
          · intro w'
            go_simp
            with_reducible rfl
          rotate_left
          · simp only [Act.put, List.setIfInBounds_toArray, List.set_cons_zero, List.set_cons_succ, i64_w, i32_w]
            rfl
          refine take_ (i := 1) (N := some 27) (v := ?_) (a' := ?_) #[true, true, true, true, false, true, true, true, false, true, true, true, true, false, false, false, false, false, false] rfl rfl (by kernel_rfl) (fun _ _ _ h => h) (Or.inl ⟨by rfl, ?_⟩) hHeld ?_ ?_
          rotate_left
          · rintro w' ⟨s0, s1⟩
            go_simp
            with_reducible rfl
          rotate_left
          · simp only [Act.put, List.setIfInBounds_toArray, List.set_cons_zero, List.set_cons_succ, i64_w, i32_w]
            rfl
          refine pure_ (i := 13) (N := some 39) (v := ?_) (a' := ?_) #[true, true, true, true, false, true, true, true, false, true, true, true, true, true, false, false, false, false, false] rfl rfl (by kernel_rfl) (fun _ _ _ h => h) (Or.inl ⟨by rfl, ?_⟩) ?_ ?_
          rotate_left
          · intro w'
            go_simp
            with_reducible rfl
          rotate_left
          · simp only [Act.put, List.setIfInBounds_toArray, List.set_cons_zero, List.set_cons_succ, i64_w, i32_w]
            rfl
          refine take_ (i := 4) (N := some 30) (v := ?_) (a' := ?_) #[true, true, true, true, true, true, true, true, false, true, true, true, true, true, false, false, false, false, false] rfl rfl (by kernel_rfl) (fun _ _ _ h => h) (Or.inl ⟨by rfl, ?_⟩) hHeld ?_ ?_
          rotate_left
          · rintro w' ⟨s0, s1⟩
            go_simp
            with_reducible rfl
          rotate_left
          · simp only [Act.put, List.setIfInBounds_toArray, List.set_cons_zero, List.set_cons_succ, i64_w, i32_w]
            rfl
          refine take_ (i := 8) (N := some 34) (v := ?_) (a' := ?_) #[true, true, true, true, true, true, true, true, true, true, true, true, true, true, false, false, false, false, false] rfl rfl (by kernel_rfl) (fun _ _ _ h => h) (Or.inl ⟨by rfl, ?_⟩) hHeld ?_ ?_
          rotate_left
          · rintro w' ⟨s0, s1⟩
            go_simp
            with_reducible rfl
          rotate_left
          · simp only [Act.put, List.setIfInBounds_toArray, List.set_cons_zero, List.set_cons_succ, i64_w, i32_w]
            rfl
          refine one_ (i := 14) (N := none) #[true, true, true, true, true, true, true, true, true, true, true, true, true, true, true, false, false, false, false] rfl rfl (by kernel_rfl) (by decide) (fun K hK => ?_)
          refine skip_ (w1 := ?_) (by rfl) rfl ?_ ?_
          rotate_left
          · go_simp
            rfl
          refine hK.out _ _ ⟨((cell_far (a := ⟨gb1186, 0, none⟩) (p := ⟨goW, _, none⟩) hneW _).trans hHeld.1), ((cell_far (a := ⟨gb1186, 1, none⟩) (p := ⟨goW, _, none⟩) hneW _).trans hHeld.2)⟩ (fun hHeld => ?_)
          clear hK K
          refine pure_ (i := 15) (N := some 40) (v := ?_) (a' := ?_) #[true, true, true, true, true, true, true, true, true, true, true, true, true, true, true, true, false, false, false] rfl rfl (by kernel_rfl) (fun _ _ _ h => h) (Or.inl ⟨by rfl, ?_⟩) ?_ ?_
          rotate_left
          · intro w'
            go_simp
            with_reducible rfl
          rotate_left
          · simp only [Act.put, List.setIfInBounds_toArray, List.set_cons_zero, List.set_cons_succ, i64_w, i32_w]
            rfl
          refine one_ (i := 16) (N := none) #[true, true, true, true, true, true, true, true, true, true, true, true, true, true, true, true, true, false, false] rfl rfl (by kernel_rfl) (by decide) (fun K hK => ?_)
          refine skip_ (w1 := ?_) (by rfl) rfl ?_ ?_
          rotate_left
          · go_simp
            rfl
          refine hK.out _ _ ⟨((cell_far (a := ⟨gb1186, 0, none⟩) (p := ⟨goW, _, none⟩) hneW _).trans hHeld.1), ((cell_far (a := ⟨gb1186, 1, none⟩) (p := ⟨goW, _, none⟩) hneW _).trans hHeld.2)⟩ (fun hHeld => ?_)
          clear hK K
          refine pure_ (i := 17) (N := some 41) (v := ?_) (a' := ?_) #[true, true, true, true, true, true, true, true, true, true, true, true, true, true, true, true, true, true, false] rfl rfl (by kernel_rfl) (fun _ _ _ h => h) (Or.inl ⟨by rfl, ?_⟩) ?_ ?_
          rotate_left
          · intro w'
            go_simp
            with_reducible rfl
          rotate_left
          · simp only [Act.put, List.setIfInBounds_toArray, List.set_cons_zero, List.set_cons_succ, i64_w, i32_w]
            rfl
          refine last_ (i := 18) (N := none) #[true, true, true, true, true, true, true, true, true, true, true, true, true, true, true, true, true, true, true] rfl rfl (by kernel_rfl) (by decide) (fun K hK => ?_)
          refine skip_ (w1 := ?_) (by rfl) rfl ?_ ?_
          rotate_left
          · go_simp
            rfl
          refine hK.out _ _ ?_
          clear hK K
          refine done_ (by kernel_rfl) ?_
          replace P1 : Kd.R (Kd.int .i64) 47 (wc.setCell ⟨goW, i, none⟩ (.int .i64 a2)) w.heap.size (fun _ => True) (.slice (some ⟨goW, 0, none⟩) (t1183.set i a2).length co16) (t1183.set i a2) ∧ wc.grownBy (wc.setCell ⟨goW, i, none⟩ (.int .i64 a2)) (some goW) := by rw [List.length_set]; exact P1
          obtain ⟨P1, G1⟩ := P1
          have Q1 := Kd.R_over' (v := (.slice (some ⟨goW, 0, none⟩) t1183.length co16)) HO_1187000.out (Kd.R_typed HO_1187001.out) (by decide) G1
          have B1 := blk_grown BK1179.out G1 (Kd.R_ne HO_1187001.out BK1179.out (by decide))
          have D1 := blk_grown BK1186.out G1 (Kd.R_ne HO_1187001.out BK1186.out (by decide))
          have P2 : Kd.R (Kd.int .i64) 47 ((wc.setCell ⟨goW, i, none⟩ (.int .i64 a2)).setCell ⟨goW, i + 1, none⟩ (.int .i64 a4)) w.heap.size (fun _ => True) (.slice (some ⟨goW, 0, none⟩) ((t1183.set i a2).set (i + 1) a4).length co16) ((t1183.set i a2).set (i + 1) a4) ∧ (wc.setCell ⟨goW, i, none⟩ (.int .i64 a2)).grownBy ((wc.setCell ⟨goW, i, none⟩ (.int .i64 a2)).setCell ⟨goW, i + 1, none⟩ (.int .i64 a4)) (some goW) := by rw [List.length_set]; exact Kd.R_putg P1 ((i + 1 : Nat) : Int) a4
          obtain ⟨P2, G2⟩ := P2
          have Q2 := Kd.R_over' (v := (.slice (some ⟨goW, 0, none⟩) (t1183.set i a2).length co16)) Q1 (Kd.R_typed P1) (by decide) G2
          have B2 := blk_grown B1 G2 (Kd.R_ne P1 B1 (by decide))
          have D2 := blk_grown D1 G2 (Kd.R_ne P1 D1 (by decide))
          have P3 : Kd.R (Kd.int .i64) 2 (((wc.setCell ⟨goW, i, none⟩ (.int .i64 a2)).setCell ⟨goW, i + 1, none⟩ (.int .i64 a4)).setCell ⟨goK, i, none⟩ (.int .i64 a3)) w.heap.size (fun _ => True) (.slice (some ⟨goK, 0, none⟩) (t1180.set i a3).length co12) (t1180.set i a3) ∧ ((wc.setCell ⟨goW, i, none⟩ (.int .i64 a2)).setCell ⟨goW, i + 1, none⟩ (.int .i64 a4)).grownBy (((wc.setCell ⟨goW, i, none⟩ (.int .i64 a2)).setCell ⟨goW, i + 1, none⟩ (.int .i64 a4)).setCell ⟨goK, i, none⟩ (.int .i64 a3)) (some goK) := by rw [List.length_set]; exact Kd.R_putg Q2 (i : Int) a3
          obtain ⟨P3, G3⟩ := P3
          have Q3 := Kd.R_over' (v := (.slice (some ⟨goK, 0, none⟩) t1180.length co12)) P2 (Kd.R_typed Q2) (by decide) G3
          have B3 := blk_grown B2 G3 (Kd.R_ne Q2 B2 (by decide))
          have D3 := blk_grown D2 G3 (Kd.R_ne Q2 D2 (by decide))
          have HB3 := below_set (below_set (below_set HB.out gbW (g := goW) (j := i) (v := .int .i64 a2)) gbW (g := goW) (j := i + 1) (v := .int .i64 a4)) gbK (g := goK) (j := i) (v := .int .i64 a3)
          rw [List.length_set, List.length_set] at Q3
          rw [List.length_set] at P3
          generalize (((wc.setCell ⟨goW, i, none⟩ (.int .i64 a2)).setCell ⟨goW, i + 1, none⟩ (.int .i64 a4)).setCell ⟨goK, i, none⟩ (.int .i64 a3)) = W3 at P3 Q3 B3 D3 HB3 ⊢
          clear e1 e2 f1 f2 hS0 hS1 hxW hfW hxV hfV hxK hfK hxW' hfW' hHeld
          have hnb := NB1179_1186.out
          have hnc := NB1186_1179.out
          have hS0 : W3.cell? ⟨gb1186, 0, none⟩ = some (.slice (some ⟨goK, 0, none⟩) t1180.length co12) := (blk_cell D3 0).trans rfl
          have hS1 : W3.cell? ⟨gb1186, 1, none⟩ = some (.slice (some ⟨goW, 0, none⟩) t1183.length co16) := (blk_cell D3 1).trans rfl
          have hz0 : W3.cell? ⟨gb1179, 0, none⟩ = some (.slice none 0 0) := (blk_cell B3 0).trans rfl
          have hz1 : W3.cell? ⟨gb1179, 1, none⟩ = some (.slice none 0 0) := (blk_cell B3 1).trans rfl
          have hzf0 := blk_frozen B3 0
          have hzf1 := blk_frozen B3 1
          go_wp2
          refine bodyPost_ret (results_cell_row rfl _ _ gb1179 26 #[.slice (some ⟨goK, 0, none⟩) t1180.length co12, .slice (some ⟨goW, 0, none⟩) t1183.length co16] (0, 0) _ rfl (by (with_reducible repeat (first | refine blk_drewN ?_ _ | refine blk_drew ?_ | refine blk_alloc ?_ _)); refine blk_put (cs := #[.slice (some ⟨goK, 0, none⟩) t1180.length co12, .slice none 0 0]) ?_ 1 _ rfl; (with_reducible repeat (first | refine blk_drewN ?_ _ | refine blk_drew ?_ | refine blk_alloc ?_ _)); refine blk_put (cs := #[.slice none 0 0, .slice none 0 0]) ?_ 0 _ rfl; (with_reducible repeat (first | refine blk_drewN ?_ _ | refine blk_drew ?_ | refine blk_alloc ?_ _)); exact B3) Try.underlying26 rfl (by kernel_rfl)) rfl ?_
          exact ⟨_, _, rfl, by (with_reducible repeat (first | apply Kd.R_alloc | apply Kd.R_drewN | apply Kd.R_drew)); exact Kd.R_mono (Kd.R_far (p := ⟨gb1179, 1, none⟩) (Kd.R_far (p := ⟨gb1179, 0, none⟩) (Kd.R_types P3 B3 (by decide)) (fun _ hk => hk.2) (.slice (some ⟨goK, 0, none⟩) t1180.length co12)) (fun _ hk => hk.2) (.slice (some ⟨goW, 0, none⟩) t1183.length co16)) (fun _ hk => trivial), by (with_reducible repeat (first | apply Kd.R_alloc | apply Kd.R_drewN | apply Kd.R_drew)); exact Kd.R_mono (Kd.R_far (p := ⟨gb1179, 1, none⟩) (Kd.R_far (p := ⟨gb1179, 0, none⟩) (Kd.R_types Q3 B3 (by decide)) (fun _ hk => hk.2) (.slice (some ⟨goK, 0, none⟩) t1180.length co12)) (fun _ hk => hk.2) (.slice (some ⟨goW, 0, none⟩) t1183.length co16)) (fun _ hk => trivial), by repeat (first | (with_reducible first | exact HB3 | apply below_alloc | apply pw_below_drewN | apply below_drew1 | refine below_set ?_ GE1179.out) | exact HB3)⟩
        · cases H

end Go.Proofs.Ytkoiffkonjpoiaa.Q
