/- Go functions of the program as plain Lean functions, and for each the contract that the call comes to its answers; written by a turned print of this session. -/
import Derived.Test.YtkoiffkonjpoiaaQ0
import Derived.Test.YtkoiffkonjpoiaaQC11
import Derived.Test.YtkoiffkonjpoiaaQC4
import Derived.Test.YtkoiffkonjpoiaaQC5
namespace Go.Proofs.Ytkoiffkonjpoiaa.Q
open Go.RowKit Go.Proofs.YtkoiffkonjpoiaaW.PrintWords Go.Proofs.YtkoiffkonjpoiaaW.PrintLast Go.Proofs.YtkoiffkonjpoiaaW.PrintMore Go.Proofs.YtkoiffkonjpoiaaX
attribute [local go_sem] max2_int min2_int max_two min_two max_three min_three max_four min_four   -- for this text's walks alone
set_option linter.unusedVariables false
set_option linter.unusedSimpArgs false

mutual
def boscagelaw18_ModelSame.j0 : Nat → Int → Bool → Int → Bool → Int → Int → List (S40) → Bool → Int → Bool → Int → Int → List (S40) → Bool → Option (Bool)
  | 0, _, _, _, _, _, _, _, _, _, _, _, _, _, _ => none
  | k + 1, x2, x19, x1162000, x1162001, x1162002, x1162003, x1162004, x1162005, x1163000, x1163001, x1163002, x1163003, x1163004, x1163005 => if x19 = true then (some true) else (if (Int.tmod x2 5) = 0 then (boscagelaw18_ModelSame.j1 k x2 x1162000 x1162001 x1162002 x1162003 x1162004 x1162005 x1163000 x1163001 x1163002 x1163003 x1163004 x1163005 x1162000 (!x1162001) x1162002 x1162003 x1162004 (!x1162005)) else (boscagelaw18_ModelSame.j1 k x2 x1162000 x1162001 x1162002 x1162003 x1162004 x1162005 x1163000 x1163001 x1163002 x1163003 x1163004 x1163005 x1162000 x1162001 x1162002 x1162003 x1162004 (!x1162005)))
def boscagelaw18_ModelSame.j1 : Nat → Int → Int → Bool → Int → Int → List (S40) → Bool → Int → Bool → Int → Int → List (S40) → Bool → Int → Bool → Int → Int → List (S40) → Bool → Option (Bool)
  | 0, _, _, _, _, _, _, _, _, _, _, _, _, _, _, _, _, _, _, _ => none
  | k + 1, x2, x1162000, x1162001, x1162002, x1162003, x1162004, x1162005, x1163000, x1163001, x1163002, x1163003, x1163004, x1163005, x1165000, x1165001, x1165002, x1165003, x1165004, x1165005 => if (Int.tmod x2 5) = 1 then (boscagelaw18_ModelSame.j2 k x2 x1162000 x1162001 x1162002 x1162003 x1162004 x1162005 x1163000 x1163001 x1163002 x1163003 x1163004 x1163005 x1165000 x1165001 (Go.bits .xor .i64 x1165002 1) x1165003 x1165004 x1165005) else (boscagelaw18_ModelSame.j2 k x2 x1162000 x1162001 x1162002 x1162003 x1162004 x1162005 x1163000 x1163001 x1163002 x1163003 x1163004 x1163005 x1165000 x1165001 x1165002 x1165003 x1165004 x1165005)
def boscagelaw18_ModelSame.j2 : Nat → Int → Int → Bool → Int → Int → List (S40) → Bool → Int → Bool → Int → Int → List (S40) → Bool → Int → Bool → Int → Int → List (S40) → Bool → Option (Bool)
  | 0, _, _, _, _, _, _, _, _, _, _, _, _, _, _, _, _, _, _, _ => none
  | k + 1, x2, x1162000, x1162001, x1162002, x1162003, x1162004, x1162005, x1163000, x1163001, x1163002, x1163003, x1163004, x1163005, x1165000, x1165001, x1165002, x1165003, x1165004, x1165005 => if (Int.tmod x2 5) = 2 then (boscagelaw18_ModelSame.j3 k x2 x1162000 x1162001 x1162002 x1162003 x1162004 x1162005 x1163000 x1163001 x1163002 x1163003 x1163004 x1163005 x1165000 x1165001 x1165002 (Go.bits .xor .i64 x1165003 1) x1165004 x1165005) else (boscagelaw18_ModelSame.j3 k x2 x1162000 x1162001 x1162002 x1162003 x1162004 x1162005 x1163000 x1163001 x1163002 x1163003 x1163004 x1163005 x1165000 x1165001 x1165002 x1165003 x1165004 x1165005)
def boscagelaw18_ModelSame.j3 : Nat → Int → Int → Bool → Int → Int → List (S40) → Bool → Int → Bool → Int → Int → List (S40) → Bool → Int → Bool → Int → Int → List (S40) → Bool → Option (Bool)
  | 0, _, _, _, _, _, _, _, _, _, _, _, _, _, _, _, _, _, _, _ => none
  | k + 1, x2, x1162000, x1162001, x1162002, x1162003, x1162004, x1162005, x1163000, x1163001, x1163002, x1163003, x1163004, x1163005, x1165000, x1165001, x1165002, x1165003, x1165004, x1165005 => if (Int.tmod x2 5) = 3 then ((some (([] : List (S40)) : List (S40))).bind fun y1165 => (if y1165.length + x1162004.length < 8796093022208 then ((some (y1165 ++ x1162004 : List (S40))).bind fun y1168 => (if y1168.length < 8796093022208 then (boscagelaw18_ModelSame.j4 k x2 x1162000 x1162001 x1162002 x1162003 x1162004 x1162005 x1163000 x1163001 x1163002 x1163003 x1163004 x1163005 x1165000 x1165001 x1165002 x1165003 (y1168 ++ [(⟨0, 0⟩ : S40)]) x1165005) else (none))) else (none))) else (boscagelaw18_ModelSame.j4 k x2 x1162000 x1162001 x1162002 x1162003 x1162004 x1162005 x1163000 x1163001 x1163002 x1163003 x1163004 x1163005 x1165000 x1165001 x1165002 x1165003 x1165004 x1165005)
def boscagelaw18_ModelSame.j4 : Nat → Int → Int → Bool → Int → Int → List (S40) → Bool → Int → Bool → Int → Int → List (S40) → Bool → Int → Bool → Int → Int → List (S40) → Bool → Option (Bool)
  | 0, _, _, _, _, _, _, _, _, _, _, _, _, _, _, _, _, _, _, _ => none
  | k + 1, x2, x1162000, x1162001, x1162002, x1162003, x1162004, x1162005, x1163000, x1163001, x1163002, x1163003, x1163004, x1163005, x1165000, x1165001, x1165002, x1165003, x1165004, x1165005 => (model_Same.f k x1162000 x1162001 x1162002 x1162003 x1162004 x1162005 x1163000 x1163001 x1163002 x1163003 x1163004 x1163005).bind fun t1174 => ((boscagelaw18_Same.f k x1162000 x1162001 x1162002 x1162003 x1162004 x1162005 x1163000 x1163001 x1163002 x1163003 x1163004 x1163005).bind fun t1175 => (if (t1174 == t1175) = true then ((model_Same.f k x1162000 x1162001 x1162002 x1162003 x1162004 x1162005 x1162000 x1162001 x1162002 x1162003 x1162004 x1162005).bind fun t1176 => (if t1176 = true then ((model_Same.f k x1162000 x1162001 x1162002 x1162003 x1162004 x1162005 x1165000 x1165001 x1165002 x1165003 x1165004 x1165005).bind fun t1177 => (some (t1177 == ((Int.tmod x2 5) == 4)))) else (some false))) else (some false)))
end
def boscagelaw18_ModelSame.f (k : Nat) (a0_0 : Int) (a0_1 : Bool) (a0_2 : Int) (a0_3 : Int) (l0_4 : List (S40)) (a0_5 : Bool) (a1_0 : Int) (a1_1 : Bool) (a1_2 : Int) (a1_3 : Int) (l1_4 : List (S40)) (a1_5 : Bool) (a2 : Int) : Option (Bool) := (boscagelaw18_Awake.f k).bind fun t1163 => (if t1163 = true then (if (l0_4.length : Int) > 20 then (boscagelaw18_ModelSame.j0 k a2 true a0_0 a0_1 a0_2 a0_3 l0_4 a0_5 a1_0 a1_1 a1_2 a1_3 l1_4 a1_5) else (boscagelaw18_ModelSame.j0 k a2 (decide ((l1_4.length : Int) > 20)) a0_0 a0_1 a0_2 a0_3 l0_4 a0_5 a1_0 a1_1 a1_2 a1_3 l1_4 a1_5)) else (some false))
def boscagelaw18_ModelSame.T15 : Bool × List (List Nat × List Nat) := (true, [([], []), ([], []), ([0, 1], [0, 1]), ([], []), ([], []), ([3, 4, 2], [3, 4]), ([2, 5], [2, 5]), ([6, 5], [6]), ([7], [7]), ([7], [7]), ([8, 9, 7, 7], [7, 8, 9]), ([7, 10], [7, 10]), ([11, 10], [11]), ([12], [12]), ([12], [12]), ([13, 14, 12, 12], [12, 13, 14]), ([12], [12]), ([16, 12], [12, 16]), ([17, 12], [12, 17]), ([15, 18, 12], [12, 15, 18]), ([12, 19], [12, 19]), ([20, 15, 0, 1, 2, 3, 4, 5, 6, 7, 8, 9, 10, 11, 12, 13, 14, 15, 16, 17, 18, 19, 20], [20])])
def boscagelaw18_ModelSame.B15 : List Nat := [0, 0, 3, 0, 0, 31, 63, 127, 255, 255, 1023, 2047, 4095, 8191, 8191, 32767, 8191, 73727, 204799, 524287, 1048575, 2097151]
theorem boscagelaw18_ModelSame.tab15 : rtab .any (opsOf Try.f27 15) = boscagelaw18_ModelSame.T15 := by kernel_rfl
theorem boscagelaw18_ModelSame.bits15 : waitsOk boscagelaw18_ModelSame.T15.2 boscagelaw18_ModelSame.B15 = true := by kernel_rfl
set_option maxHeartbeats 8000000 in
set_option maxRecDepth 100000 in
theorem boscagelaw18_ModelSame.calls (k : Nat) (a0_0 : Int) (a0_1 : Bool) (a0_2 : Int) (a0_3 : Int) (P0_4_ : Nat → Prop) (A0_4 : Option Addr) (c0_4 : Nat) (l0_4 : List (S40)) (a0_5 : Bool) (a1_0 : Int) (a1_1 : Bool) (a1_2 : Int) (a1_3 : Int) (A1_4 : Option Addr) (c1_4 : Nat) (l1_4 : List (S40)) (a1_5 : Bool) (a2 : Int) (r : Bool) (w : World) (hs0_4 : Kd.V k40 40 w w.heap.size (fun k_ => P0_4_ k_) (.slice A0_4 l0_4.length c0_4) l0_4) (hr1_4 : Kd.C k40 w A1_4 l1_4.length l1_4) (hc1_4 : l1_4.length ≤ c1_4) (h : boscagelaw18_ModelSame.f k a0_0 a0_1 a0_2 a0_3 l0_4 a0_5 a1_0 a1_1 a1_2 a1_3 l1_4 a1_5 a2 = some r) :
    Calls Try.prog 27 #[.agg #[.int .i64 a0_0, .bool a0_1, .int .i64 a0_2, .int .i64 a0_3, .slice A0_4 l0_4.length c0_4, .bool a0_5], .agg #[.int .i64 a1_0, .bool a1_1, .int .i64 a1_2, .int .i64 a1_3, .slice A1_4 l1_4.length c1_4, .bool a1_5], .int .u8 a2] w fun e w' => e = .returned (.bool r) ∧ Below w.heap.size w w' := by
  have hu84 := Try.underlying84
  have hu40 := Try.underlying40
  have HO0_4 := Aside0.mk (show Kd.V k40 40 w w.heap.size (fun k_ => (P0_4_ k_ ∨ w.heap.size ≤ k_)) (.slice A0_4 l0_4.length c0_4) l0_4 from Kd.V_mono hs0_4 (fun k_ hk => .inl hk))
  have HR1_4 := Aside0.mk hr1_4
  have HC1_4 := Aside0.mk hc1_4
  clear hr1_4 hc1_4
  have HB := Aside0.mk (Below.refl w.heap.size w)
  have H : ((boscagelaw18_Awake.f k).bind fun t1163 => (if t1163 = true then (if (l0_4.length : Int) > 20 then (boscagelaw18_ModelSame.j0 k a2 true a0_0 a0_1 a0_2 a0_3 l0_4 a0_5 a1_0 a1_1 a1_2 a1_3 l1_4 a1_5) else (boscagelaw18_ModelSame.j0 k a2 (decide ((l1_4.length : Int) > 20)) a0_0 a0_1 a0_2 a0_3 l0_4 a0_5 a1_0 a1_1 a1_2 a1_3 l1_4 a1_5)) else (some false))) = some r := h
  clear h
  replace H := Option.bind_eq_some_iff.mp H
  obtain ⟨t1163, A40, H⟩ := H
  replace H : (if t1163 = true then (if (l0_4.length : Int) > 20 then (boscagelaw18_ModelSame.j0 k a2 true a0_0 a0_1 a0_2 a0_3 l0_4 a0_5 a1_0 a1_1 a1_2 a1_3 l1_4 a1_5) else (boscagelaw18_ModelSame.j0 k a2 (decide ((l1_4.length : Int) > 20)) a0_0 a0_1 a0_2 a0_3 l0_4 a0_5 a1_0 a1_1 a1_2 a1_3 l1_4 a1_5)) else (some false)) = some r := H
  have A4 := Aside0.mk A40
  clear A40
  by_cases c5 : t1163 = true
  · subst c5
    have H1 : (if (l0_4.length : Int) > 20 then (boscagelaw18_ModelSame.j0 k a2 true a0_0 a0_1 a0_2 a0_3 l0_4 a0_5 a1_0 a1_1 a1_2 a1_3 l1_4 a1_5) else (boscagelaw18_ModelSame.j0 k a2 (decide ((l1_4.length : Int) > 20)) a0_0 a0_1 a0_2 a0_3 l0_4 a0_5 a1_0 a1_1 a1_2 a1_3 l1_4 a1_5)) = some r := by rw [if_pos rfl] at H; exact H
    clear H
    have H := H1
    clear H1
    have HC6 := Aside0.mk H
    clear H
    go_enter Try.func27, Try.ntmps27
    go_upto_region 3 with (first | ((with_reducible refine gate_dst (N := 3) rfl ?_); (try (refine gate_guard (by rfl) ?_; dsimp only)); refine box_event ?hg (N := 3) ?hd (cs := #[.int .i64 a0_0, .bool a0_1, .int .i64 a0_2, .int .i64 a0_3, .slice A0_4 l0_4.length c0_4, .bool a0_5]) (t := 84) ?hr ?_; (case hd => rfl); (case hg => rfl); (case hr => first | (go_simp; done) | (go_simp; rfl)); intro gb1161 hg w7 hbox hb; have n0_ := Aside0.mk (Kd.V_below (Kd.V_elderB (by (with_reducible repeat (first | apply Kd.V_alloc | apply Kd.V_drewN | apply Kd.V_drew)); exact HO0_4.out) gb1161 (Nat.le_of_eq hg.symm)) hb); have n1_ := Aside0.mk (below_step (by repeat (first | (with_reducible first | exact HB.out | apply below_alloc | apply pw_below_drewN | apply below_drew1) | exact HB.out)) hb); have n2_ := Aside0.mk (hbox); have n3_ := Aside0.mk ((by rw [hg]; exact (below_size (by repeat (first | (with_reducible first | exact HB.out | apply below_alloc | apply pw_below_drewN | apply below_drew1) | exact HB.out))) : w.heap.size ≤ gb1161)); have n4_ := Aside0.mk ((by rw [hg]; exact (below_size (by repeat (first | (with_reducible first | exact HB.out | apply below_alloc | apply pw_below_drewN | apply below_drew1) | exact HB.out))) : w.heap.size ≤ gb1161)); clear HO0_4; clear HB; have HO0_4 := n0_; have HB := n1_; have BK1161 := n2_; have GW1161 := n3_; have GE1161 := n4_; clear n0_ n1_ n2_ n3_ n4_; clear hb hbox hg) | ((with_reducible refine gate_dst (N := 4) rfl ?_); (try (refine gate_guard (by rfl) ?_; dsimp only)); refine box_event ?hg (N := 4) ?hd (cs := #[.int .i64 a1_0, .bool a1_1, .int .i64 a1_2, .int .i64 a1_3, .slice A1_4 l1_4.length c1_4, .bool a1_5]) (t := 84) ?hr ?_; (case hd => rfl); (case hg => rfl); (case hr => first | (go_simp; done) | (go_simp; rfl)); intro gb1162 hg w8 hbox hb; have n0_ := Aside0.mk (Kd.V_below (Kd.V_elderB (by (with_reducible repeat (first | apply Kd.V_alloc | apply Kd.V_drewN | apply Kd.V_drew)); exact HO0_4.out) gb1162 (Nat.le_of_eq hg.symm)) hb); have n1_ := Aside0.mk (blk_below (g := gb1161) (o := .cells #[.int .i64 a0_0, .bool a0_1, .int .i64 a0_2, .int .i64 a0_3, .slice A0_4 l0_4.length c0_4, .bool a0_5] 84 (0, 0)) (by (with_reducible repeat (first | refine blk_drewN ?_ _ | refine blk_drew ?_ | refine blk_alloc ?_ _)); exact BK1161.out) hb); have n2_ := Aside0.mk (below_step (by repeat (first | (with_reducible first | exact HB.out | apply below_alloc | apply pw_below_drewN | apply below_drew1 | refine below_set ?_ GE1161.out) | exact HB.out)) hb); have n3_ := Aside0.mk (hbox); have n4_ := Aside0.mk ((by rw [hg]; exact (below_size (by repeat (first | (with_reducible first | exact HB.out | apply below_alloc | apply pw_below_drewN | apply below_drew1 | refine below_set ?_ GE1161.out) | exact HB.out))) : w.heap.size ≤ gb1162)); have n5_ := Aside0.mk ((by rw [hg]; exact (below_size (by repeat (first | (with_reducible first | exact HB.out | apply below_alloc | apply pw_below_drewN | apply below_drew1 | refine below_set ?_ GE1161.out) | exact HB.out))) : w.heap.size ≤ gb1162)); have n6_ := Aside0.mk ((by rw [hg]; exact Nat.ne_of_lt (blk_lt (g := gb1161) (o := .cells #[.int .i64 a0_0, .bool a0_1, .int .i64 a0_2, .int .i64 a0_3, .slice A0_4 l0_4.length c0_4, .bool a0_5] 84 (0, 0)) (by (with_reducible repeat (first | refine blk_drewN ?_ _ | refine blk_drew ?_ | refine blk_alloc ?_ _)); exact BK1161.out)) : gb1161 ≠ gb1162)); have n7_ := Aside0.mk ((by rw [hg]; exact Nat.ne_of_gt (blk_lt (g := gb1161) (o := .cells #[.int .i64 a0_0, .bool a0_1, .int .i64 a0_2, .int .i64 a0_3, .slice A0_4 l0_4.length c0_4, .bool a0_5] 84 (0, 0)) (by (with_reducible repeat (first | refine blk_drewN ?_ _ | refine blk_drew ?_ | refine blk_alloc ?_ _)); exact BK1161.out)) : gb1162 ≠ gb1161)); clear HO0_4; clear BK1161; clear HB; have HO0_4 := n0_; have BK1161 := n1_; have HB := n2_; have BK1162 := n3_; have GW1162 := n4_; have GE1162 := n5_; have NB1161_1162 := n6_; have NB1162_1161 := n7_; clear n0_ n1_ n2_ n3_ n4_ n5_ n6_ n7_; clear hb hbox hg) | ((with_reducible refine gate_callee (f := 70) rfl ?_); refine goesL_ (some 8) rfl rfl Try.func70 (by kernel_rfl) rfl #[] rfl (by (try simp only [List.map_toArray, List.map_cons, List.map_nil]); first | done | rfl | (simp only [List.length_drop, List.length_take]; rfl)) ?_; (with_reducible refine (boscagelaw18_Awake.calls k  true _ A4.out).mono ?_); rintro e w9 ⟨rfl, hb⟩; refine ⟨_, rfl, ?_⟩; have n0_ := Aside0.mk (Kd.V_below (by (with_reducible repeat (first | apply Kd.V_alloc | apply Kd.V_drewN | apply Kd.V_drew)); exact HO0_4.out) hb); have n1_ := Aside0.mk (blk_below (g := gb1161) (o := .cells #[.int .i64 a0_0, .bool a0_1, .int .i64 a0_2, .int .i64 a0_3, .slice A0_4 l0_4.length c0_4, .bool a0_5] 84 (0, 0)) (by (with_reducible repeat (first | refine blk_drewN ?_ _ | refine blk_drew ?_ | refine blk_alloc ?_ _)); exact BK1161.out) hb); have n2_ := Aside0.mk (blk_below (g := gb1162) (o := .cells #[.int .i64 a1_0, .bool a1_1, .int .i64 a1_2, .int .i64 a1_3, .slice A1_4 l1_4.length c1_4, .bool a1_5] 84 (0, 0)) (by (with_reducible repeat (first | refine blk_drewN ?_ _ | refine blk_drew ?_ | refine blk_alloc ?_ _)); exact BK1162.out) hb); have n3_ := Aside0.mk (below_step (by repeat (first | (with_reducible first | exact HB.out | apply below_alloc | apply pw_below_drewN | apply below_drew1 | refine below_set ?_ GE1161.out | refine below_set ?_ GE1162.out) | exact HB.out)) hb); clear HO0_4; clear BK1161; clear BK1162; clear HB; have HO0_4 := n0_; have BK1161 := n1_; have BK1162 := n2_; have HB := n3_; clear n0_ n1_ n2_ n3_; (try clear hb); (try clear hb2); (try clear hk); (try clear hi)))
    (try simp only [Act.put, List.setIfInBounds_toArray, List.set_cons_zero, List.set_cons_succ])
    go_cut [19] (fun v19 wc => ∃ (kq : Nat) (x19_5 : Bool), v19 = .bool x19_5 ∧ Aside0 (boscagelaw18_ModelSame.j0 kq a2 x19_5 a0_0 a0_1 a0_2 a0_3 l0_4 a0_5 a1_0 a1_1 a1_2 a1_3 l1_4 a1_5 = some r) ∧ Aside0 (kq ≤ k) ∧ Aside0 (Kd.V k40 40 wc w.heap.size (fun k_ => (P0_4_ k_ ∨ w.heap.size ≤ k_) ∧ k_ ≠ gb1161 ∧ k_ ≠ gb1162) (.slice A0_4 l0_4.length c0_4) l0_4) ∧ Aside0 (wc.heap[gb1161]? = some (.cells #[.int .i64 a0_0, .bool a0_1, .int .i64 a0_2, .int .i64 a0_3, (.slice A0_4 l0_4.length c0_4), .bool a0_5] 84 (0, 0))) ∧ Aside0 (wc.heap[gb1162]? = some (.cells #[.int .i64 a1_0, .bool a1_1, .int .i64 a1_2, .int .i64 a1_3, (.slice A1_4 l1_4.length c1_4), .bool a1_5] 84 (0, 0))) ∧ Aside0 (Below w.heap.size w wc))
    case first =>
      have H := HC6.out
      clear HC6
      by_cases c10 : (l0_4.length : Int) > 20
      · rw [if_pos c10] at H
        have c10b0 : decide (20 < (l0_4.length : Int)) = true := decide_eq_true c10
        have c10b1 : decide (20 < l0_4.length) = true := decide_eq_true (by omega)
        clear c10
        (first | rw [c10b0] | (simp only [i64_w, i32_w]; rw [c10b0]) | skip)
        have H' := Aside0.mk H
        clear H
        have hnb11 := NB1161_1162.out
        have hnc11 := NB1162_1161.out
        have hcz12_0 : w9.cell? ⟨gb1161, 0, none⟩ = some (.int .i64 a0_0) := (blk_cell BK1161.out 0).trans rfl
        have hcz12_1 : w9.cell? ⟨gb1161, 1, none⟩ = some (.bool a0_1) := (blk_cell BK1161.out 1).trans rfl
        have hcz12_2 : w9.cell? ⟨gb1161, 2, none⟩ = some (.int .i64 a0_2) := (blk_cell BK1161.out 2).trans rfl
        have hcz12_3 : w9.cell? ⟨gb1161, 3, none⟩ = some (.int .i64 a0_3) := (blk_cell BK1161.out 3).trans rfl
        have hcz12_4 : w9.cell? ⟨gb1161, 4, none⟩ = some (.slice A0_4 l0_4.length c0_4) := (blk_cell BK1161.out 4).trans rfl
        have hcz12_5 : w9.cell? ⟨gb1161, 5, none⟩ = some (.bool a0_5) := (blk_cell BK1161.out 5).trans rfl
        have hfz12_0 := blk_frozen BK1161.out 0
        have hfz12_1 := blk_frozen BK1161.out 1
        have hfz12_2 := blk_frozen BK1161.out 2
        have hfz12_3 := blk_frozen BK1161.out 3
        have hfz12_4 := blk_frozen BK1161.out 4
        have hfz12_5 := blk_frozen BK1161.out 5
        go_wp2
        go_meet
        case rel => exact ⟨_, (true), (by first | rfl | (simp; done) | (simp [*]; done)), H', ⟨by first | omega | exact Nat.le_refl _⟩, ⟨by (with_reducible repeat (first | apply Kd.V_alloc | apply Kd.V_drewN | apply Kd.V_drew)); exact Kd.V_mono HO0_4.out (fun _ hk => ⟨hk.1.1, ⟨hk.1.2, hk.2⟩⟩)⟩, ⟨by (with_reducible repeat (first | refine blk_drewN ?_ _ | refine blk_drew ?_ | refine blk_alloc ?_ _)); exact BK1161.out⟩, ⟨by (with_reducible repeat (first | refine blk_drewN ?_ _ | refine blk_drew ?_ | refine blk_alloc ?_ _)); exact BK1162.out⟩, ⟨by repeat (first | (with_reducible first | exact HB.out | apply below_alloc | apply pw_below_drewN | apply below_drew1 | refine below_set ?_ GE1161.out | refine below_set ?_ GE1162.out) | exact HB.out)⟩⟩
      · rw [if_neg c10] at H
        have c10b0 : decide (20 < (l0_4.length : Int)) = false := decide_eq_false c10
        have c10b1 : decide (20 < l0_4.length) = false := decide_eq_false (by omega)
        clear c10
        (first | rw [c10b0] | (simp only [i64_w, i32_w]; rw [c10b0]) | skip)
        have H' := Aside0.mk H
        clear H
        have hnb13 := NB1161_1162.out
        have hnc13 := NB1162_1161.out
        have hcz14_0 : w9.cell? ⟨gb1161, 0, none⟩ = some (.int .i64 a0_0) := (blk_cell BK1161.out 0).trans rfl
        have hcz14_1 : w9.cell? ⟨gb1161, 1, none⟩ = some (.bool a0_1) := (blk_cell BK1161.out 1).trans rfl
        have hcz14_2 : w9.cell? ⟨gb1161, 2, none⟩ = some (.int .i64 a0_2) := (blk_cell BK1161.out 2).trans rfl
        have hcz14_3 : w9.cell? ⟨gb1161, 3, none⟩ = some (.int .i64 a0_3) := (blk_cell BK1161.out 3).trans rfl
        have hcz14_4 : w9.cell? ⟨gb1161, 4, none⟩ = some (.slice A0_4 l0_4.length c0_4) := (blk_cell BK1161.out 4).trans rfl
        have hcz14_5 : w9.cell? ⟨gb1161, 5, none⟩ = some (.bool a0_5) := (blk_cell BK1161.out 5).trans rfl
        have hfz14_0 := blk_frozen BK1161.out 0
        have hfz14_1 := blk_frozen BK1161.out 1
        have hfz14_2 := blk_frozen BK1161.out 2
        have hfz14_3 := blk_frozen BK1161.out 3
        have hfz14_4 := blk_frozen BK1161.out 4
        have hfz14_5 := blk_frozen BK1161.out 5
        have hcz15_0 : w9.cell? ⟨gb1162, 0, none⟩ = some (.int .i64 a1_0) := (blk_cell BK1162.out 0).trans rfl
        have hcz15_1 : w9.cell? ⟨gb1162, 1, none⟩ = some (.bool a1_1) := (blk_cell BK1162.out 1).trans rfl
        have hcz15_2 : w9.cell? ⟨gb1162, 2, none⟩ = some (.int .i64 a1_2) := (blk_cell BK1162.out 2).trans rfl
        have hcz15_3 : w9.cell? ⟨gb1162, 3, none⟩ = some (.int .i64 a1_3) := (blk_cell BK1162.out 3).trans rfl
        have hcz15_4 : w9.cell? ⟨gb1162, 4, none⟩ = some (.slice A1_4 l1_4.length c1_4) := (blk_cell BK1162.out 4).trans rfl
        have hcz15_5 : w9.cell? ⟨gb1162, 5, none⟩ = some (.bool a1_5) := (blk_cell BK1162.out 5).trans rfl
        have hfz15_0 := blk_frozen BK1162.out 0
        have hfz15_1 := blk_frozen BK1162.out 1
        have hfz15_2 := blk_frozen BK1162.out 2
        have hfz15_3 := blk_frozen BK1162.out 3
        have hfz15_4 := blk_frozen BK1162.out 4
        have hfz15_5 := blk_frozen BK1162.out 5
        go_wp2
        go_meet
        case rel => exact ⟨_, (decide ((l1_4.length : Int) > 20)), (by first | rfl | (simp; done) | (simp [*]; done)), H', ⟨by first | omega | exact Nat.le_refl _⟩, ⟨by (with_reducible repeat (first | apply Kd.V_alloc | apply Kd.V_drewN | apply Kd.V_drew)); exact Kd.V_mono HO0_4.out (fun _ hk => ⟨hk.1.1, ⟨hk.1.2, hk.2⟩⟩)⟩, ⟨by (with_reducible repeat (first | refine blk_drewN ?_ _ | refine blk_drew ?_ | refine blk_alloc ?_ _)); exact BK1161.out⟩, ⟨by (with_reducible repeat (first | refine blk_drewN ?_ _ | refine blk_drew ?_ | refine blk_alloc ?_ _)); exact BK1162.out⟩, ⟨by repeat (first | (with_reducible first | exact HB.out | apply below_alloc | apply pw_below_drewN | apply below_drew1 | refine below_set ?_ GE1161.out | refine below_set ?_ GE1162.out) | exact HB.out)⟩⟩
    case rest =>
      clear HC6
      try clear c1
      try clear c2
      try clear p2
      try clear c5
      try clear c7
      try clear c10
      try clear c10b0
      try clear c10b1
      try clear c11
      try clear c13
      try clear hcz12_0
      try clear hcz12_1
      try clear hcz12_2
      try clear hcz12_3
      try clear hcz12_4
      try clear hcz12_5
      try clear hcz14_0
      try clear hcz14_1
      try clear hcz14_2
      try clear hcz14_3
      try clear hcz14_4
      try clear hcz14_5
      try clear hcz15_0
      try clear hcz15_1
      try clear hcz15_2
      try clear hcz15_3
      try clear hcz15_4
      try clear hcz15_5
      try clear hfz12_0
      try clear hfz12_1
      try clear hfz12_2
      try clear hfz12_3
      try clear hfz12_4
      try clear hfz12_5
      try clear hfz14_0
      try clear hfz14_1
      try clear hfz14_2
      try clear hfz14_3
      try clear hfz14_4
      try clear hfz14_5
      try clear hfz15_0
      try clear hfz15_1
      try clear hfz15_2
      try clear hfz15_3
      try clear hfz15_4
      try clear hfz15_5
      obtain ⟨kq, x19_5, rfl, HA, HJ5, HO_1162004, BK1161, BK1162, HB⟩ := hcut
      cases kq with
      | zero => exact absurd HA.out (by simp [boscagelaw18_ModelSame.j0])
      | succ kj5 =>
        have H := HA.out
        clear HA
        simp only [boscagelaw18_ModelSame.j0] at H
        by_cases c16 : x19_5 = true
        · subst c16
          have H1 : (some true) = some r := by rw [if_pos rfl] at H; exact H
          clear H
          have H := H1
          clear H1
          obtain rfl := Option.some.inj H
          go_wp2
          go_ret
          exact ⟨by first | rfl | (simp [errW_none, errW_some] <;> rfl) | (simp [*, errW_none, errW_some] <;> rfl), by repeat (first | (with_reducible first | exact HB.out | apply below_alloc | apply pw_below_drewN | apply below_drew1 | refine below_set ?_ GE1161.out | refine below_set ?_ GE1162.out) | exact HB.out)⟩
        · replace c16 := Bool.eq_false_iff.mpr c16
          subst c16
          have H1 : (if (Int.tmod a2 5) = 0 then (boscagelaw18_ModelSame.j1 kj5 a2 a0_0 a0_1 a0_2 a0_3 l0_4 a0_5 a1_0 a1_1 a1_2 a1_3 l1_4 a1_5 a0_0 (!a0_1) a0_2 a0_3 l0_4 (!a0_5)) else (boscagelaw18_ModelSame.j1 kj5 a2 a0_0 a0_1 a0_2 a0_3 l0_4 a0_5 a1_0 a1_1 a1_2 a1_3 l1_4 a1_5 a0_0 a0_1 a0_2 a0_3 l0_4 (!a0_5))) = some r := by rw [if_neg (show ¬ (false = true) by decide)] at H; exact H
          clear H
          have H := H1
          clear H1
          have HC17 := Aside0.mk H
          clear H
          have hnb18 := NB1161_1162.out
          have hnc18 := NB1162_1161.out
          have hcz19_0 : wc.cell? ⟨gb1161, 0, none⟩ = some (.int .i64 a0_0) := (blk_cell BK1161.out 0).trans rfl
          have hcz19_1 : wc.cell? ⟨gb1161, 1, none⟩ = some (.bool a0_1) := (blk_cell BK1161.out 1).trans rfl
          have hcz19_2 : wc.cell? ⟨gb1161, 2, none⟩ = some (.int .i64 a0_2) := (blk_cell BK1161.out 2).trans rfl
          have hcz19_3 : wc.cell? ⟨gb1161, 3, none⟩ = some (.int .i64 a0_3) := (blk_cell BK1161.out 3).trans rfl
          have hcz19_4 : wc.cell? ⟨gb1161, 4, none⟩ = some (.slice A0_4 l0_4.length c0_4) := (blk_cell BK1161.out 4).trans rfl
          have hcz19_5 : wc.cell? ⟨gb1161, 5, none⟩ = some (.bool a0_5) := (blk_cell BK1161.out 5).trans rfl
          have hfz19_0 := blk_frozen BK1161.out 0
          have hfz19_1 := blk_frozen BK1161.out 1
          have hfz19_2 := blk_frozen BK1161.out 2
          have hfz19_3 := blk_frozen BK1161.out 3
          have hfz19_4 := blk_frozen BK1161.out 4
          have hfz19_5 := blk_frozen BK1161.out 5
          go_upto_if 27 with (first | ((with_reducible refine gate_dst (N := 7) rfl ?_); (try (refine gate_guard (by rfl) ?_; dsimp only)); refine box_event ?hg (N := 7) ?hd (cs := #[.int .i64 0, .bool false, .int .i64 0, .int .i64 0, .slice none 0 0, .bool false]) (t := 84) ?hr ?_; (case hd => rfl); (case hg => rfl); (case hr => first | (go_simp; done) | (go_simp; rfl)); intro gb1164 hg w20 hbox hb; have n0_ := Aside0.mk (Kd.V_below (Kd.V_elderB (by (with_reducible repeat (first | apply Kd.V_alloc | apply Kd.V_drewN | apply Kd.V_drew)); exact HO_1162004.out) gb1164 (Nat.le_of_eq hg.symm)) hb); have n1_ := Aside0.mk (blk_below (g := gb1161) (o := .cells #[.int .i64 a0_0, .bool a0_1, .int .i64 a0_2, .int .i64 a0_3, .slice A0_4 l0_4.length c0_4, .bool a0_5] 84 (0, 0)) (by (with_reducible repeat (first | refine blk_drewN ?_ _ | refine blk_drew ?_ | refine blk_alloc ?_ _)); exact BK1161.out) hb); have n2_ := Aside0.mk (blk_below (g := gb1162) (o := .cells #[.int .i64 a1_0, .bool a1_1, .int .i64 a1_2, .int .i64 a1_3, .slice A1_4 l1_4.length c1_4, .bool a1_5] 84 (0, 0)) (by (with_reducible repeat (first | refine blk_drewN ?_ _ | refine blk_drew ?_ | refine blk_alloc ?_ _)); exact BK1162.out) hb); have n3_ := Aside0.mk (below_step (by repeat (first | (with_reducible first | exact HB.out | apply below_alloc | apply pw_below_drewN | apply below_drew1 | refine below_set ?_ GE1161.out | refine below_set ?_ GE1162.out) | exact HB.out)) hb); have n4_ := Aside0.mk (hbox); have n5_ := Aside0.mk ((by rw [hg]; exact (below_size (by repeat (first | (with_reducible first | exact HB.out | apply below_alloc | apply pw_below_drewN | apply below_drew1 | refine below_set ?_ GE1161.out | refine below_set ?_ GE1162.out) | exact HB.out))) : w.heap.size ≤ gb1164)); have n6_ := Aside0.mk ((by rw [hg]; exact (below_size (by repeat (first | (with_reducible first | exact HB.out | apply below_alloc | apply pw_below_drewN | apply below_drew1 | refine below_set ?_ GE1161.out | refine below_set ?_ GE1162.out) | exact HB.out))) : w.heap.size ≤ gb1164)); have n7_ := Aside0.mk ((by rw [hg]; exact Nat.ne_of_lt (blk_lt (g := gb1161) (o := .cells #[.int .i64 a0_0, .bool a0_1, .int .i64 a0_2, .int .i64 a0_3, .slice A0_4 l0_4.length c0_4, .bool a0_5] 84 (0, 0)) (by (with_reducible repeat (first | refine blk_drewN ?_ _ | refine blk_drew ?_ | refine blk_alloc ?_ _)); exact BK1161.out)) : gb1161 ≠ gb1164)); have n8_ := Aside0.mk ((by rw [hg]; exact Nat.ne_of_gt (blk_lt (g := gb1161) (o := .cells #[.int .i64 a0_0, .bool a0_1, .int .i64 a0_2, .int .i64 a0_3, .slice A0_4 l0_4.length c0_4, .bool a0_5] 84 (0, 0)) (by (with_reducible repeat (first | refine blk_drewN ?_ _ | refine blk_drew ?_ | refine blk_alloc ?_ _)); exact BK1161.out)) : gb1164 ≠ gb1161)); have n9_ := Aside0.mk ((by rw [hg]; exact Nat.ne_of_lt (blk_lt (g := gb1162) (o := .cells #[.int .i64 a1_0, .bool a1_1, .int .i64 a1_2, .int .i64 a1_3, .slice A1_4 l1_4.length c1_4, .bool a1_5] 84 (0, 0)) (by (with_reducible repeat (first | refine blk_drewN ?_ _ | refine blk_drew ?_ | refine blk_alloc ?_ _)); exact BK1162.out)) : gb1162 ≠ gb1164)); have n10_ := Aside0.mk ((by rw [hg]; exact Nat.ne_of_gt (blk_lt (g := gb1162) (o := .cells #[.int .i64 a1_0, .bool a1_1, .int .i64 a1_2, .int .i64 a1_3, .slice A1_4 l1_4.length c1_4, .bool a1_5] 84 (0, 0)) (by (with_reducible repeat (first | refine blk_drewN ?_ _ | refine blk_drew ?_ | refine blk_alloc ?_ _)); exact BK1162.out)) : gb1164 ≠ gb1162)); clear HO_1162004; clear BK1161; clear BK1162; clear HB; have HO_1162004 := n0_; have BK1161 := n1_; have BK1162 := n2_; have HB := n3_; have BK1164 := n4_; have GW1164 := n5_; have GE1164 := n6_; have NB1161_1164 := n7_; have NB1164_1161 := n8_; have NB1162_1164 := n9_; have NB1164_1162 := n10_; clear n0_ n1_ n2_ n3_ n4_ n5_ n6_ n7_ n8_ n9_ n10_; clear hb hbox hg; have hnb21 := NB1164_1161.out; have hnc21 := NB1161_1164.out; have hnb22 := NB1164_1162.out; have hnc22 := NB1162_1164.out; have hcz23_0 : w20.cell? ⟨gb1164, 0, none⟩ = some (.int .i64 0) := (blk_cell BK1164.out 0).trans rfl; have hcz23_1 : w20.cell? ⟨gb1164, 1, none⟩ = some (.bool false) := (blk_cell BK1164.out 1).trans rfl; have hcz23_2 : w20.cell? ⟨gb1164, 2, none⟩ = some (.int .i64 0) := (blk_cell BK1164.out 2).trans rfl; have hcz23_3 : w20.cell? ⟨gb1164, 3, none⟩ = some (.int .i64 0) := (blk_cell BK1164.out 3).trans rfl; have hcz23_4 : w20.cell? ⟨gb1164, 4, none⟩ = some (.slice none 0 0) := (blk_cell BK1164.out 4).trans rfl; have hcz23_5 : w20.cell? ⟨gb1164, 5, none⟩ = some (.bool false) := (blk_cell BK1164.out 5).trans rfl; have hfz23_0 := blk_frozen BK1164.out 0; have hfz23_1 := blk_frozen BK1164.out 1; have hfz23_2 := blk_frozen BK1164.out 2; have hfz23_3 := blk_frozen BK1164.out 3; have hfz23_4 := blk_frozen BK1164.out 4; have hfz23_5 := blk_frozen BK1164.out 5; have hcz24_0 : w20.cell? ⟨gb1161, 0, none⟩ = some (.int .i64 a0_0) := (blk_cell BK1161.out 0).trans rfl; have hcz24_1 : w20.cell? ⟨gb1161, 1, none⟩ = some (.bool a0_1) := (blk_cell BK1161.out 1).trans rfl; have hcz24_2 : w20.cell? ⟨gb1161, 2, none⟩ = some (.int .i64 a0_2) := (blk_cell BK1161.out 2).trans rfl; have hcz24_3 : w20.cell? ⟨gb1161, 3, none⟩ = some (.int .i64 a0_3) := (blk_cell BK1161.out 3).trans rfl; have hcz24_4 : w20.cell? ⟨gb1161, 4, none⟩ = some (.slice A0_4 l0_4.length c0_4) := (blk_cell BK1161.out 4).trans rfl; have hcz24_5 : w20.cell? ⟨gb1161, 5, none⟩ = some (.bool a0_5) := (blk_cell BK1161.out 5).trans rfl; have hfz24_0 := blk_frozen BK1161.out 0; have hfz24_1 := blk_frozen BK1161.out 1; have hfz24_2 := blk_frozen BK1161.out 2; have hfz24_3 := blk_frozen BK1161.out 3; have hfz24_4 := blk_frozen BK1161.out 4; have hfz24_5 := blk_frozen BK1161.out 5))
          (try simp only [Act.put, List.setIfInBounds_toArray, List.set_cons_zero, List.set_cons_succ])
          go_cut [] (fun wc => ∃ (kq : Nat) (x1165001_16 : Bool), Aside0 (boscagelaw18_ModelSame.j1 kq a2 a0_0 a0_1 a0_2 a0_3 l0_4 a0_5 a1_0 a1_1 a1_2 a1_3 l1_4 a1_5 a0_0 x1165001_16 a0_2 a0_3 l0_4 (!a0_5) = some r) ∧ Aside0 (kq ≤ kj5) ∧ Aside0 (Kd.V k40 40 wc w.heap.size (fun k_ => (P0_4_ k_ ∨ w.heap.size ≤ k_) ∧ k_ ≠ gb1161 ∧ k_ ≠ gb1162 ∧ k_ ≠ gb1164) (.slice A0_4 l0_4.length c0_4) l0_4) ∧ Aside0 (Kd.V k40 40 wc w.heap.size (fun k_ => (P0_4_ k_ ∨ w.heap.size ≤ k_) ∧ k_ ≠ gb1161 ∧ k_ ≠ gb1162 ∧ k_ ≠ gb1164) (.slice A0_4 l0_4.length c0_4) l0_4) ∧ Aside0 (wc.heap[gb1161]? = some (.cells #[.int .i64 a0_0, .bool a0_1, .int .i64 a0_2, .int .i64 a0_3, (.slice A0_4 l0_4.length c0_4), .bool a0_5] 84 (0, 0))) ∧ Aside0 (wc.heap[gb1162]? = some (.cells #[.int .i64 a1_0, .bool a1_1, .int .i64 a1_2, .int .i64 a1_3, (.slice A1_4 l1_4.length c1_4), .bool a1_5] 84 (0, 0))) ∧ Aside0 (wc.heap[gb1164]? = some (.cells #[.int .i64 a0_0, .bool x1165001_16, .int .i64 a0_2, .int .i64 a0_3, (.slice A0_4 l0_4.length c0_4), .bool (!a0_5)] 84 (0, 0))) ∧ Aside0 (Below w.heap.size w wc))
          case first =>
            have H := HC17.out
            clear HC17
            by_cases c25 : (Int.tmod a2 5) = 0
            · rw [if_pos c25] at H
              have c25b0 : ((Int.tmod a2 5) == 0) = true := beq_iff_eq.mpr c25
              have c25b1 : ((Int.tmod a2 5) != 0) = false := bne_eq_false_iff_eq.mpr c25
              clear c25
              (first | rw [c25b0] | (simp only [i64_w, i32_w]; rw [c25b0]) | skip)
              have H' := Aside0.mk H
              clear H
              have hnb26 := NB1161_1162.out
              have hnc26 := NB1162_1161.out
              have hnb27 := NB1161_1164.out
              have hnc27 := NB1164_1161.out
              have hcz28_0 : w20.cell? ⟨gb1161, 0, none⟩ = some (.int .i64 a0_0) := (blk_cell BK1161.out 0).trans rfl
              have hcz28_1 : w20.cell? ⟨gb1161, 1, none⟩ = some (.bool a0_1) := (blk_cell BK1161.out 1).trans rfl
              have hcz28_2 : w20.cell? ⟨gb1161, 2, none⟩ = some (.int .i64 a0_2) := (blk_cell BK1161.out 2).trans rfl
              have hcz28_3 : w20.cell? ⟨gb1161, 3, none⟩ = some (.int .i64 a0_3) := (blk_cell BK1161.out 3).trans rfl
              have hcz28_4 : w20.cell? ⟨gb1161, 4, none⟩ = some (.slice A0_4 l0_4.length c0_4) := (blk_cell BK1161.out 4).trans rfl
              have hcz28_5 : w20.cell? ⟨gb1161, 5, none⟩ = some (.bool a0_5) := (blk_cell BK1161.out 5).trans rfl
              have hfz28_0 := blk_frozen BK1161.out 0
              have hfz28_1 := blk_frozen BK1161.out 1
              have hfz28_2 := blk_frozen BK1161.out 2
              have hfz28_3 := blk_frozen BK1161.out 3
              have hfz28_4 := blk_frozen BK1161.out 4
              have hfz28_5 := blk_frozen BK1161.out 5
              have hnb29 := NB1164_1162.out
              have hnc29 := NB1162_1164.out
              have hcz30_0 : w20.cell? ⟨gb1164, 0, none⟩ = some (.int .i64 0) := (blk_cell BK1164.out 0).trans rfl
              have hcz30_1 : w20.cell? ⟨gb1164, 1, none⟩ = some (.bool false) := (blk_cell BK1164.out 1).trans rfl
              have hcz30_2 : w20.cell? ⟨gb1164, 2, none⟩ = some (.int .i64 0) := (blk_cell BK1164.out 2).trans rfl
              have hcz30_3 : w20.cell? ⟨gb1164, 3, none⟩ = some (.int .i64 0) := (blk_cell BK1164.out 3).trans rfl
              have hcz30_4 : w20.cell? ⟨gb1164, 4, none⟩ = some (.slice none 0 0) := (blk_cell BK1164.out 4).trans rfl
              have hcz30_5 : w20.cell? ⟨gb1164, 5, none⟩ = some (.bool false) := (blk_cell BK1164.out 5).trans rfl
              have hfz30_0 := blk_frozen BK1164.out 0
              have hfz30_1 := blk_frozen BK1164.out 1
              have hfz30_2 := blk_frozen BK1164.out 2
              have hfz30_3 := blk_frozen BK1164.out 3
              have hfz30_4 := blk_frozen BK1164.out 4
              have hfz30_5 := blk_frozen BK1164.out 5
              go_wp2
              go_meet
              case rel => exact ⟨_, (!a0_1), H', ⟨by have := HJ5.out; first | omega | exact Nat.le_refl _⟩, ⟨by (with_reducible repeat (first | apply Kd.V_alloc | apply Kd.V_drewN | apply Kd.V_drew)); exact Kd.V_mono (Kd.V_far (p := ⟨gb1164, 1, none⟩) (Kd.V_far (p := ⟨gb1164, 5, none⟩) (Kd.V_far (p := ⟨gb1164, 5, none⟩) (Kd.V_far (p := ⟨gb1164, 4, none⟩) (Kd.V_far (p := ⟨gb1164, 3, none⟩) (Kd.V_far (p := ⟨gb1164, 2, none⟩) (Kd.V_far (p := ⟨gb1164, 1, none⟩) (Kd.V_far (p := ⟨gb1164, 0, none⟩) (Kd.V_mono HO_1162004.out (fun k_ hk => (⟨hk, hk.2⟩ : _ ∧ k_ ≠ gb1164))) (fun _ hk => hk.2) (.int .i64 a0_0)) (fun _ hk => hk.2) (.bool a0_1)) (fun _ hk => hk.2) (.int .i64 a0_2)) (fun _ hk => hk.2) (.int .i64 a0_3)) (fun _ hk => hk.2) (.slice A0_4 l0_4.length c0_4)) (fun _ hk => hk.2) (.bool a0_5)) (fun _ hk => hk.2) (.bool (!a0_5))) (fun _ hk => hk.2) (.bool (!a0_1))) (fun _ hk => ⟨hk.1.1.1, ⟨hk.1.1.2.1, ⟨hk.1.1.2.2, hk.1.2⟩⟩⟩)⟩, ⟨by (with_reducible repeat (first | apply Kd.V_alloc | apply Kd.V_drewN | apply Kd.V_drew)); exact Kd.V_mono (Kd.V_far (p := ⟨gb1164, 1, none⟩) (Kd.V_far (p := ⟨gb1164, 5, none⟩) (Kd.V_far (p := ⟨gb1164, 5, none⟩) (Kd.V_far (p := ⟨gb1164, 4, none⟩) (Kd.V_far (p := ⟨gb1164, 3, none⟩) (Kd.V_far (p := ⟨gb1164, 2, none⟩) (Kd.V_far (p := ⟨gb1164, 1, none⟩) (Kd.V_far (p := ⟨gb1164, 0, none⟩) (Kd.V_mono HO_1162004.out (fun k_ hk => (⟨hk, hk.2⟩ : _ ∧ k_ ≠ gb1164))) (fun _ hk => hk.2) (.int .i64 a0_0)) (fun _ hk => hk.2) (.bool a0_1)) (fun _ hk => hk.2) (.int .i64 a0_2)) (fun _ hk => hk.2) (.int .i64 a0_3)) (fun _ hk => hk.2) (.slice A0_4 l0_4.length c0_4)) (fun _ hk => hk.2) (.bool a0_5)) (fun _ hk => hk.2) (.bool (!a0_5))) (fun _ hk => hk.2) (.bool (!a0_1))) (fun _ hk => ⟨hk.1.1.1, ⟨hk.1.1.2.1, ⟨hk.1.1.2.2, hk.1.2⟩⟩⟩)⟩, ⟨by (with_reducible repeat (first | refine blk_drewN ?_ _ | refine blk_drew ?_ | refine blk_alloc ?_ _)); refine blk_far ?_ NB1161_1164.out _; (with_reducible repeat (first | refine blk_drewN ?_ _ | refine blk_drew ?_ | refine blk_alloc ?_ _)); refine blk_far ?_ NB1161_1164.out _; (with_reducible repeat (first | refine blk_drewN ?_ _ | refine blk_drew ?_ | refine blk_alloc ?_ _)); refine blk_far ?_ NB1161_1164.out _; (with_reducible repeat (first | refine blk_drewN ?_ _ | refine blk_drew ?_ | refine blk_alloc ?_ _)); refine blk_far ?_ NB1161_1164.out _; (with_reducible repeat (first | refine blk_drewN ?_ _ | refine blk_drew ?_ | refine blk_alloc ?_ _)); refine blk_far ?_ NB1161_1164.out _; (with_reducible repeat (first | refine blk_drewN ?_ _ | refine blk_drew ?_ | refine blk_alloc ?_ _)); refine blk_far ?_ NB1161_1164.out _; (with_reducible repeat (first | refine blk_drewN ?_ _ | refine blk_drew ?_ | refine blk_alloc ?_ _)); refine blk_far ?_ NB1161_1164.out _; (with_reducible repeat (first | refine blk_drewN ?_ _ | refine blk_drew ?_ | refine blk_alloc ?_ _)); refine blk_far ?_ NB1161_1164.out _; (with_reducible repeat (first | refine blk_drewN ?_ _ | refine blk_drew ?_ | refine blk_alloc ?_ _)); exact BK1161.out⟩, ⟨by (with_reducible repeat (first | refine blk_drewN ?_ _ | refine blk_drew ?_ | refine blk_alloc ?_ _)); refine blk_far ?_ NB1162_1164.out _; (with_reducible repeat (first | refine blk_drewN ?_ _ | refine blk_drew ?_ | refine blk_alloc ?_ _)); refine blk_far ?_ NB1162_1164.out _; (with_reducible repeat (first | refine blk_drewN ?_ _ | refine blk_drew ?_ | refine blk_alloc ?_ _)); refine blk_far ?_ NB1162_1164.out _; (with_reducible repeat (first | refine blk_drewN ?_ _ | refine blk_drew ?_ | refine blk_alloc ?_ _)); refine blk_far ?_ NB1162_1164.out _; (with_reducible repeat (first | refine blk_drewN ?_ _ | refine blk_drew ?_ | refine blk_alloc ?_ _)); refine blk_far ?_ NB1162_1164.out _; (with_reducible repeat (first | refine blk_drewN ?_ _ | refine blk_drew ?_ | refine blk_alloc ?_ _)); refine blk_far ?_ NB1162_1164.out _; (with_reducible repeat (first | refine blk_drewN ?_ _ | refine blk_drew ?_ | refine blk_alloc ?_ _)); refine blk_far ?_ NB1162_1164.out _; (with_reducible repeat (first | refine blk_drewN ?_ _ | refine blk_drew ?_ | refine blk_alloc ?_ _)); refine blk_far ?_ NB1162_1164.out _; (with_reducible repeat (first | refine blk_drewN ?_ _ | refine blk_drew ?_ | refine blk_alloc ?_ _)); exact BK1162.out⟩, ⟨by (with_reducible repeat (first | refine blk_drewN ?_ _ | refine blk_drew ?_ | refine blk_alloc ?_ _)); refine blk_put (cs := #[.int .i64 a0_0, .bool a0_1, .int .i64 a0_2, .int .i64 a0_3, .slice A0_4 l0_4.length c0_4, .bool (!a0_5)]) ?_ 1 _ rfl; (with_reducible repeat (first | refine blk_drewN ?_ _ | refine blk_drew ?_ | refine blk_alloc ?_ _)); refine blk_put (cs := #[.int .i64 a0_0, .bool a0_1, .int .i64 a0_2, .int .i64 a0_3, .slice A0_4 l0_4.length c0_4, .bool a0_5]) ?_ 5 _ rfl; (with_reducible repeat (first | refine blk_drewN ?_ _ | refine blk_drew ?_ | refine blk_alloc ?_ _)); refine blk_put (cs := #[.int .i64 a0_0, .bool a0_1, .int .i64 a0_2, .int .i64 a0_3, .slice A0_4 l0_4.length c0_4, .bool false]) ?_ 5 _ rfl; (with_reducible repeat (first | refine blk_drewN ?_ _ | refine blk_drew ?_ | refine blk_alloc ?_ _)); refine blk_put (cs := #[.int .i64 a0_0, .bool a0_1, .int .i64 a0_2, .int .i64 a0_3, .slice none 0 0, .bool false]) ?_ 4 _ rfl; (with_reducible repeat (first | refine blk_drewN ?_ _ | refine blk_drew ?_ | refine blk_alloc ?_ _)); refine blk_put (cs := #[.int .i64 a0_0, .bool a0_1, .int .i64 a0_2, .int .i64 0, .slice none 0 0, .bool false]) ?_ 3 _ rfl; (with_reducible repeat (first | refine blk_drewN ?_ _ | refine blk_drew ?_ | refine blk_alloc ?_ _)); refine blk_put (cs := #[.int .i64 a0_0, .bool a0_1, .int .i64 0, .int .i64 0, .slice none 0 0, .bool false]) ?_ 2 _ rfl; (with_reducible repeat (first | refine blk_drewN ?_ _ | refine blk_drew ?_ | refine blk_alloc ?_ _)); refine blk_put (cs := #[.int .i64 a0_0, .bool false, .int .i64 0, .int .i64 0, .slice none 0 0, .bool false]) ?_ 1 _ rfl; (with_reducible repeat (first | refine blk_drewN ?_ _ | refine blk_drew ?_ | refine blk_alloc ?_ _)); refine blk_put (cs := #[.int .i64 0, .bool false, .int .i64 0, .int .i64 0, .slice none 0 0, .bool false]) ?_ 0 _ rfl; (with_reducible repeat (first | refine blk_drewN ?_ _ | refine blk_drew ?_ | refine blk_alloc ?_ _)); exact BK1164.out⟩, ⟨by repeat (first | (with_reducible first | exact HB.out | apply below_alloc | apply pw_below_drewN | apply below_drew1 | refine below_set ?_ GE1161.out | refine below_set ?_ GE1162.out | refine below_set ?_ GE1164.out) | exact HB.out)⟩⟩
            · rw [if_neg c25] at H
              have c25b0 : ((Int.tmod a2 5) == 0) = false := beq_eq_false_iff_ne.mpr c25
              have c25b1 : ((Int.tmod a2 5) != 0) = true := bne_iff_ne.mpr c25
              (first | rw [c25b0] | (simp only [i64_w, i32_w]; rw [c25b0]) | skip)
              have H' := Aside0.mk H
              clear H
              go_wp2
              go_meet
              case rel => exact ⟨_, (a0_1), H', ⟨by have := HJ5.out; first | omega | exact Nat.le_refl _⟩, ⟨by (with_reducible repeat (first | apply Kd.V_alloc | apply Kd.V_drewN | apply Kd.V_drew)); exact Kd.V_mono (Kd.V_far (p := ⟨gb1164, 5, none⟩) (Kd.V_far (p := ⟨gb1164, 5, none⟩) (Kd.V_far (p := ⟨gb1164, 4, none⟩) (Kd.V_far (p := ⟨gb1164, 3, none⟩) (Kd.V_far (p := ⟨gb1164, 2, none⟩) (Kd.V_far (p := ⟨gb1164, 1, none⟩) (Kd.V_far (p := ⟨gb1164, 0, none⟩) (Kd.V_mono HO_1162004.out (fun k_ hk => (⟨hk, hk.2⟩ : _ ∧ k_ ≠ gb1164))) (fun _ hk => hk.2) (.int .i64 a0_0)) (fun _ hk => hk.2) (.bool a0_1)) (fun _ hk => hk.2) (.int .i64 a0_2)) (fun _ hk => hk.2) (.int .i64 a0_3)) (fun _ hk => hk.2) (.slice A0_4 l0_4.length c0_4)) (fun _ hk => hk.2) (.bool a0_5)) (fun _ hk => hk.2) (.bool (!a0_5))) (fun _ hk => ⟨hk.1.1.1, ⟨hk.1.1.2.1, ⟨hk.1.1.2.2, hk.1.2⟩⟩⟩)⟩, ⟨by (with_reducible repeat (first | apply Kd.V_alloc | apply Kd.V_drewN | apply Kd.V_drew)); exact Kd.V_mono (Kd.V_far (p := ⟨gb1164, 5, none⟩) (Kd.V_far (p := ⟨gb1164, 5, none⟩) (Kd.V_far (p := ⟨gb1164, 4, none⟩) (Kd.V_far (p := ⟨gb1164, 3, none⟩) (Kd.V_far (p := ⟨gb1164, 2, none⟩) (Kd.V_far (p := ⟨gb1164, 1, none⟩) (Kd.V_far (p := ⟨gb1164, 0, none⟩) (Kd.V_mono HO_1162004.out (fun k_ hk => (⟨hk, hk.2⟩ : _ ∧ k_ ≠ gb1164))) (fun _ hk => hk.2) (.int .i64 a0_0)) (fun _ hk => hk.2) (.bool a0_1)) (fun _ hk => hk.2) (.int .i64 a0_2)) (fun _ hk => hk.2) (.int .i64 a0_3)) (fun _ hk => hk.2) (.slice A0_4 l0_4.length c0_4)) (fun _ hk => hk.2) (.bool a0_5)) (fun _ hk => hk.2) (.bool (!a0_5))) (fun _ hk => ⟨hk.1.1.1, ⟨hk.1.1.2.1, ⟨hk.1.1.2.2, hk.1.2⟩⟩⟩)⟩, ⟨by (with_reducible repeat (first | refine blk_drewN ?_ _ | refine blk_drew ?_ | refine blk_alloc ?_ _)); refine blk_far ?_ NB1161_1164.out _; (with_reducible repeat (first | refine blk_drewN ?_ _ | refine blk_drew ?_ | refine blk_alloc ?_ _)); refine blk_far ?_ NB1161_1164.out _; (with_reducible repeat (first | refine blk_drewN ?_ _ | refine blk_drew ?_ | refine blk_alloc ?_ _)); refine blk_far ?_ NB1161_1164.out _; (with_reducible repeat (first | refine blk_drewN ?_ _ | refine blk_drew ?_ | refine blk_alloc ?_ _)); refine blk_far ?_ NB1161_1164.out _; (with_reducible repeat (first | refine blk_drewN ?_ _ | refine blk_drew ?_ | refine blk_alloc ?_ _)); refine blk_far ?_ NB1161_1164.out _; (with_reducible repeat (first | refine blk_drewN ?_ _ | refine blk_drew ?_ | refine blk_alloc ?_ _)); refine blk_far ?_ NB1161_1164.out _; (with_reducible repeat (first | refine blk_drewN ?_ _ | refine blk_drew ?_ | refine blk_alloc ?_ _)); refine blk_far ?_ NB1161_1164.out _; (with_reducible repeat (first | refine blk_drewN ?_ _ | refine blk_drew ?_ | refine blk_alloc ?_ _)); exact BK1161.out⟩, ⟨by (with_reducible repeat (first | refine blk_drewN ?_ _ | refine blk_drew ?_ | refine blk_alloc ?_ _)); refine blk_far ?_ NB1162_1164.out _; (with_reducible repeat (first | refine blk_drewN ?_ _ | refine blk_drew ?_ | refine blk_alloc ?_ _)); refine blk_far ?_ NB1162_1164.out _; (with_reducible repeat (first | refine blk_drewN ?_ _ | refine blk_drew ?_ | refine blk_alloc ?_ _)); refine blk_far ?_ NB1162_1164.out _; (with_reducible repeat (first | refine blk_drewN ?_ _ | refine blk_drew ?_ | refine blk_alloc ?_ _)); refine blk_far ?_ NB1162_1164.out _; (with_reducible repeat (first | refine blk_drewN ?_ _ | refine blk_drew ?_ | refine blk_alloc ?_ _)); refine blk_far ?_ NB1162_1164.out _; (with_reducible repeat (first | refine blk_drewN ?_ _ | refine blk_drew ?_ | refine blk_alloc ?_ _)); refine blk_far ?_ NB1162_1164.out _; (with_reducible repeat (first | refine blk_drewN ?_ _ | refine blk_drew ?_ | refine blk_alloc ?_ _)); refine blk_far ?_ NB1162_1164.out _; (with_reducible repeat (first | refine blk_drewN ?_ _ | refine blk_drew ?_ | refine blk_alloc ?_ _)); exact BK1162.out⟩, ⟨by (with_reducible repeat (first | refine blk_drewN ?_ _ | refine blk_drew ?_ | refine blk_alloc ?_ _)); refine blk_put (cs := #[.int .i64 a0_0, .bool a0_1, .int .i64 a0_2, .int .i64 a0_3, .slice A0_4 l0_4.length c0_4, .bool a0_5]) ?_ 5 _ rfl; (with_reducible repeat (first | refine blk_drewN ?_ _ | refine blk_drew ?_ | refine blk_alloc ?_ _)); refine blk_put (cs := #[.int .i64 a0_0, .bool a0_1, .int .i64 a0_2, .int .i64 a0_3, .slice A0_4 l0_4.length c0_4, .bool false]) ?_ 5 _ rfl; (with_reducible repeat (first | refine blk_drewN ?_ _ | refine blk_drew ?_ | refine blk_alloc ?_ _)); refine blk_put (cs := #[.int .i64 a0_0, .bool a0_1, .int .i64 a0_2, .int .i64 a0_3, .slice none 0 0, .bool false]) ?_ 4 _ rfl; (with_reducible repeat (first | refine blk_drewN ?_ _ | refine blk_drew ?_ | refine blk_alloc ?_ _)); refine blk_put (cs := #[.int .i64 a0_0, .bool a0_1, .int .i64 a0_2, .int .i64 0, .slice none 0 0, .bool false]) ?_ 3 _ rfl; (with_reducible repeat (first | refine blk_drewN ?_ _ | refine blk_drew ?_ | refine blk_alloc ?_ _)); refine blk_put (cs := #[.int .i64 a0_0, .bool a0_1, .int .i64 0, .int .i64 0, .slice none 0 0, .bool false]) ?_ 2 _ rfl; (with_reducible repeat (first | refine blk_drewN ?_ _ | refine blk_drew ?_ | refine blk_alloc ?_ _)); refine blk_put (cs := #[.int .i64 a0_0, .bool false, .int .i64 0, .int .i64 0, .slice none 0 0, .bool false]) ?_ 1 _ rfl; (with_reducible repeat (first | refine blk_drewN ?_ _ | refine blk_drew ?_ | refine blk_alloc ?_ _)); refine blk_put (cs := #[.int .i64 0, .bool false, .int .i64 0, .int .i64 0, .slice none 0 0, .bool false]) ?_ 0 _ rfl; (with_reducible repeat (first | refine blk_drewN ?_ _ | refine blk_drew ?_ | refine blk_alloc ?_ _)); exact BK1164.out⟩, ⟨by repeat (first | (with_reducible first | exact HB.out | apply below_alloc | apply pw_below_drewN | apply below_drew1 | refine below_set ?_ GE1161.out | refine below_set ?_ GE1162.out | refine below_set ?_ GE1164.out) | exact HB.out)⟩⟩
          case rest =>
            clear HC17
            try clear c1
            try clear c2
            try clear p2
            try clear c5
            try clear c7
            try clear c10
            try clear c10b0
            try clear c10b1
            try clear c11
            try clear c13
            try clear c16
            try clear c18
            try clear c21
            try clear c22
            try clear c25
            try clear c25b0
            try clear c25b1
            try clear c26
            try clear c27
            try clear c29
            try clear hcz12_0
            try clear hcz12_1
            try clear hcz12_2
            try clear hcz12_3
            try clear hcz12_4
            try clear hcz12_5
            try clear hcz14_0
            try clear hcz14_1
            try clear hcz14_2
            try clear hcz14_3
            try clear hcz14_4
            try clear hcz14_5
            try clear hcz15_0
            try clear hcz15_1
            try clear hcz15_2
            try clear hcz15_3
            try clear hcz15_4
            try clear hcz15_5
            try clear hcz19_0
            try clear hcz19_1
            try clear hcz19_2
            try clear hcz19_3
            try clear hcz19_4
            try clear hcz19_5
            try clear hcz23_0
            try clear hcz23_1
            try clear hcz23_2
            try clear hcz23_3
            try clear hcz23_4
            try clear hcz23_5
            try clear hcz24_0
            try clear hcz24_1
            try clear hcz24_2
            try clear hcz24_3
            try clear hcz24_4
            try clear hcz24_5
            try clear hcz28_0
            try clear hcz28_1
            try clear hcz28_2
            try clear hcz28_3
            try clear hcz28_4
            try clear hcz28_5
            try clear hcz30_0
            try clear hcz30_1
            try clear hcz30_2
            try clear hcz30_3
            try clear hcz30_4
            try clear hcz30_5
            try clear hfz12_0
            try clear hfz12_1
            try clear hfz12_2
            try clear hfz12_3
            try clear hfz12_4
            try clear hfz12_5
            try clear hfz14_0
            try clear hfz14_1
            try clear hfz14_2
            try clear hfz14_3
            try clear hfz14_4
            try clear hfz14_5
            try clear hfz15_0
            try clear hfz15_1
            try clear hfz15_2
            try clear hfz15_3
            try clear hfz15_4
            try clear hfz15_5
            try clear hfz19_0
            try clear hfz19_1
            try clear hfz19_2
            try clear hfz19_3
            try clear hfz19_4
            try clear hfz19_5
            try clear hfz23_0
            try clear hfz23_1
            try clear hfz23_2
            try clear hfz23_3
            try clear hfz23_4
            try clear hfz23_5
            try clear hfz24_0
            try clear hfz24_1
            try clear hfz24_2
            try clear hfz24_3
            try clear hfz24_4
            try clear hfz24_5
            try clear hfz28_0
            try clear hfz28_1
            try clear hfz28_2
            try clear hfz28_3
            try clear hfz28_4
            try clear hfz28_5
            try clear hfz30_0
            try clear hfz30_1
            try clear hfz30_2
            try clear hfz30_3
            try clear hfz30_4
            try clear hfz30_5
            try clear p2
            obtain ⟨kq, x1165001_16, HA, HJ16, HO_1162004, HO_1165004, BK1161, BK1162, BK1164, HB⟩ := hcut
            cases kq with
            | zero => exact absurd HA.out (by simp [boscagelaw18_ModelSame.j1])
            | succ kj16 =>
              have H := HA.out
              clear HA
              simp only [boscagelaw18_ModelSame.j1] at H
              have HC31 := Aside0.mk H
              clear H
              go_upto_if 34 with (fail)
              go_cut [] (fun wc => ∃ (kq : Nat) (x1165002_30 : Int), Aside0 (boscagelaw18_ModelSame.j2 kq a2 a0_0 a0_1 a0_2 a0_3 l0_4 a0_5 a1_0 a1_1 a1_2 a1_3 l1_4 a1_5 a0_0 x1165001_16 x1165002_30 a0_3 l0_4 (!a0_5) = some r) ∧ Aside0 (kq ≤ kj16) ∧ Aside0 (Kd.V k40 40 wc w.heap.size (fun k_ => (P0_4_ k_ ∨ w.heap.size ≤ k_) ∧ k_ ≠ gb1161 ∧ k_ ≠ gb1162 ∧ k_ ≠ gb1164) (.slice A0_4 l0_4.length c0_4) l0_4) ∧ Aside0 (Kd.V k40 40 wc w.heap.size (fun k_ => (P0_4_ k_ ∨ w.heap.size ≤ k_) ∧ k_ ≠ gb1161 ∧ k_ ≠ gb1162 ∧ k_ ≠ gb1164) (.slice A0_4 l0_4.length c0_4) l0_4) ∧ Aside0 (wc.heap[gb1161]? = some (.cells #[.int .i64 a0_0, .bool a0_1, .int .i64 a0_2, .int .i64 a0_3, (.slice A0_4 l0_4.length c0_4), .bool a0_5] 84 (0, 0))) ∧ Aside0 (wc.heap[gb1162]? = some (.cells #[.int .i64 a1_0, .bool a1_1, .int .i64 a1_2, .int .i64 a1_3, (.slice A1_4 l1_4.length c1_4), .bool a1_5] 84 (0, 0))) ∧ Aside0 (wc.heap[gb1164]? = some (.cells #[.int .i64 a0_0, .bool x1165001_16, .int .i64 x1165002_30, .int .i64 a0_3, (.slice A0_4 l0_4.length c0_4), .bool (!a0_5)] 84 (0, 0))) ∧ Aside0 (Below w.heap.size w wc))
              case first =>
                have H := HC31.out
                clear HC31
                by_cases c32 : (Int.tmod a2 5) = 1
                · rw [if_pos c32] at H
                  have c32b0 : ((Int.tmod a2 5) == 1) = true := beq_iff_eq.mpr c32
                  have c32b1 : ((Int.tmod a2 5) != 1) = false := bne_eq_false_iff_eq.mpr c32
                  clear c32
                  (first | rw [c32b0] | (simp only [i64_w, i32_w]; rw [c32b0]) | skip)
                  have H' := Aside0.mk H
                  clear H
                  have hnb33 := NB1164_1161.out
                  have hnc33 := NB1161_1164.out
                  have hnb34 := NB1164_1162.out
                  have hnc34 := NB1162_1164.out
                  have hcz35_0 : wc.cell? ⟨gb1164, 0, none⟩ = some (.int .i64 a0_0) := (blk_cell BK1164.out 0).trans rfl
                  have hcz35_1 : wc.cell? ⟨gb1164, 1, none⟩ = some (.bool x1165001_16) := (blk_cell BK1164.out 1).trans rfl
                  have hcz35_2 : wc.cell? ⟨gb1164, 2, none⟩ = some (.int .i64 a0_2) := (blk_cell BK1164.out 2).trans rfl
                  have hcz35_3 : wc.cell? ⟨gb1164, 3, none⟩ = some (.int .i64 a0_3) := (blk_cell BK1164.out 3).trans rfl
                  have hcz35_4 : wc.cell? ⟨gb1164, 4, none⟩ = some (.slice A0_4 l0_4.length c0_4) := (blk_cell BK1164.out 4).trans rfl
                  have hcz35_5 : wc.cell? ⟨gb1164, 5, none⟩ = some (.bool (!a0_5)) := (blk_cell BK1164.out 5).trans rfl
                  have hfz35_0 := blk_frozen BK1164.out 0
                  have hfz35_1 := blk_frozen BK1164.out 1
                  have hfz35_2 := blk_frozen BK1164.out 2
                  have hfz35_3 := blk_frozen BK1164.out 3
                  have hfz35_4 := blk_frozen BK1164.out 4
                  have hfz35_5 := blk_frozen BK1164.out 5
                  go_wp2
                  go_meet
                  case rel => exact ⟨_, (Go.bits .xor .i64 a0_2 1), H', ⟨by have := HJ5.out; have := HJ16.out; first | omega | exact Nat.le_refl _⟩, ⟨by (with_reducible repeat (first | apply Kd.V_alloc | apply Kd.V_drewN | apply Kd.V_drew)); exact Kd.V_mono (Kd.V_far (p := ⟨gb1164, 2, none⟩) (Kd.V_mono HO_1162004.out (fun k_ hk => (⟨hk, hk.2.2.2⟩ : _ ∧ k_ ≠ gb1164))) (fun _ hk => hk.2) (.int .i64 (Go.bits .xor .i64 a0_2 1))) (fun _ hk => ⟨hk.1.1, ⟨hk.1.2.1, ⟨hk.1.2.2.1, hk.1.2.2.2⟩⟩⟩)⟩, ⟨by (with_reducible repeat (first | apply Kd.V_alloc | apply Kd.V_drewN | apply Kd.V_drew)); exact Kd.V_mono (Kd.V_far (p := ⟨gb1164, 2, none⟩) (Kd.V_mono HO_1165004.out (fun k_ hk => (⟨hk, hk.2.2.2⟩ : _ ∧ k_ ≠ gb1164))) (fun _ hk => hk.2) (.int .i64 (Go.bits .xor .i64 a0_2 1))) (fun _ hk => ⟨hk.1.1, ⟨hk.1.2.1, ⟨hk.1.2.2.1, hk.1.2.2.2⟩⟩⟩)⟩, ⟨by (with_reducible repeat (first | refine blk_drewN ?_ _ | refine blk_drew ?_ | refine blk_alloc ?_ _)); refine blk_far ?_ NB1161_1164.out _; (with_reducible repeat (first | refine blk_drewN ?_ _ | refine blk_drew ?_ | refine blk_alloc ?_ _)); exact BK1161.out⟩, ⟨by (with_reducible repeat (first | refine blk_drewN ?_ _ | refine blk_drew ?_ | refine blk_alloc ?_ _)); refine blk_far ?_ NB1162_1164.out _; (with_reducible repeat (first | refine blk_drewN ?_ _ | refine blk_drew ?_ | refine blk_alloc ?_ _)); exact BK1162.out⟩, ⟨by (with_reducible repeat (first | refine blk_drewN ?_ _ | refine blk_drew ?_ | refine blk_alloc ?_ _)); refine blk_put (cs := #[.int .i64 a0_0, .bool x1165001_16, .int .i64 a0_2, .int .i64 a0_3, .slice A0_4 l0_4.length c0_4, .bool (!a0_5)]) ?_ 2 _ rfl; (with_reducible repeat (first | refine blk_drewN ?_ _ | refine blk_drew ?_ | refine blk_alloc ?_ _)); exact BK1164.out⟩, ⟨by repeat (first | (with_reducible first | exact HB.out | apply below_alloc | apply pw_below_drewN | apply below_drew1 | refine below_set ?_ GE1161.out | refine below_set ?_ GE1162.out | refine below_set ?_ GE1164.out) | exact HB.out)⟩⟩
                · rw [if_neg c32] at H
                  have c32b0 : ((Int.tmod a2 5) == 1) = false := beq_eq_false_iff_ne.mpr c32
                  have c32b1 : ((Int.tmod a2 5) != 1) = true := bne_iff_ne.mpr c32
                  (first | rw [c32b0] | (simp only [i64_w, i32_w]; rw [c32b0]) | skip)
                  have H' := Aside0.mk H
                  clear H
                  go_wp2
                  go_meet
                  case rel => exact ⟨_, (a0_2), H', ⟨by have := HJ5.out; have := HJ16.out; first | omega | exact Nat.le_refl _⟩, ⟨by (with_reducible repeat (first | apply Kd.V_alloc | apply Kd.V_drewN | apply Kd.V_drew)); exact HO_1162004.out⟩, ⟨by (with_reducible repeat (first | apply Kd.V_alloc | apply Kd.V_drewN | apply Kd.V_drew)); exact HO_1165004.out⟩, ⟨by (with_reducible repeat (first | refine blk_drewN ?_ _ | refine blk_drew ?_ | refine blk_alloc ?_ _)); exact BK1161.out⟩, ⟨by (with_reducible repeat (first | refine blk_drewN ?_ _ | refine blk_drew ?_ | refine blk_alloc ?_ _)); exact BK1162.out⟩, ⟨by (with_reducible repeat (first | refine blk_drewN ?_ _ | refine blk_drew ?_ | refine blk_alloc ?_ _)); exact BK1164.out⟩, ⟨by repeat (first | (with_reducible first | exact HB.out | apply below_alloc | apply pw_below_drewN | apply below_drew1 | refine below_set ?_ GE1161.out | refine below_set ?_ GE1162.out | refine below_set ?_ GE1164.out) | exact HB.out)⟩⟩
              case rest =>
                clear HC31
                try clear c1
                try clear c2
                try clear p2
                try clear c3
                try clear c5
                try clear c7
                try clear c10
                try clear c10b0
                try clear c10b1
                try clear c11
                try clear c13
                try clear c16
                try clear c18
                try clear c21
                try clear c22
                try clear c25
                try clear c25b0
                try clear c25b1
                try clear c26
                try clear c27
                try clear c29
                try clear c32
                try clear c32b0
                try clear c32b1
                try clear c33
                try clear c34
                try clear hcz12_0
                try clear hcz12_1
                try clear hcz12_2
                try clear hcz12_3
                try clear hcz12_4
                try clear hcz12_5
                try clear hcz14_0
                try clear hcz14_1
                try clear hcz14_2
                try clear hcz14_3
                try clear hcz14_4
                try clear hcz14_5
                try clear hcz15_0
                try clear hcz15_1
                try clear hcz15_2
                try clear hcz15_3
                try clear hcz15_4
                try clear hcz15_5
                try clear hcz19_0
                try clear hcz19_1
                try clear hcz19_2
                try clear hcz19_3
                try clear hcz19_4
                try clear hcz19_5
                try clear hcz23_0
                try clear hcz23_1
                try clear hcz23_2
                try clear hcz23_3
                try clear hcz23_4
                try clear hcz23_5
                try clear hcz24_0
                try clear hcz24_1
                try clear hcz24_2
                try clear hcz24_3
                try clear hcz24_4
                try clear hcz24_5
                try clear hcz28_0
                try clear hcz28_1
                try clear hcz28_2
                try clear hcz28_3
                try clear hcz28_4
                try clear hcz28_5
                try clear hcz30_0
                try clear hcz30_1
                try clear hcz30_2
                try clear hcz30_3
                try clear hcz30_4
                try clear hcz30_5
                try clear hcz35_0
                try clear hcz35_1
                try clear hcz35_2
                try clear hcz35_3
                try clear hcz35_4
                try clear hcz35_5
                try clear hfz12_0
                try clear hfz12_1
                try clear hfz12_2
                try clear hfz12_3
                try clear hfz12_4
                try clear hfz12_5
                try clear hfz14_0
                try clear hfz14_1
                try clear hfz14_2
                try clear hfz14_3
                try clear hfz14_4
                try clear hfz14_5
                try clear hfz15_0
                try clear hfz15_1
                try clear hfz15_2
                try clear hfz15_3
                try clear hfz15_4
                try clear hfz15_5
                try clear hfz19_0
                try clear hfz19_1
                try clear hfz19_2
                try clear hfz19_3
                try clear hfz19_4
                try clear hfz19_5
                try clear hfz23_0
                try clear hfz23_1
                try clear hfz23_2
                try clear hfz23_3
                try clear hfz23_4
                try clear hfz23_5
                try clear hfz24_0
                try clear hfz24_1
                try clear hfz24_2
                try clear hfz24_3
                try clear hfz24_4
                try clear hfz24_5
                try clear hfz28_0
                try clear hfz28_1
                try clear hfz28_2
                try clear hfz28_3
                try clear hfz28_4
                try clear hfz28_5
                try clear hfz30_0
                try clear hfz30_1
                try clear hfz30_2
                try clear hfz30_3
                try clear hfz30_4
                try clear hfz30_5
                try clear hfz35_0
                try clear hfz35_1
                try clear hfz35_2
                try clear hfz35_3
                try clear hfz35_4
                try clear hfz35_5
                try clear p2
                obtain ⟨kq, x1165002_30, HA, HJ30, HO_1162004, HO_1165004, BK1161, BK1162, BK1164, HB⟩ := hcut
                cases kq with
                | zero => exact absurd HA.out (by simp [boscagelaw18_ModelSame.j2])
                | succ kj30 =>
                  have H := HA.out
                  clear HA
                  simp only [boscagelaw18_ModelSame.j2] at H
                  have HC36 := Aside0.mk H
                  clear H
                  go_upto_if 41 with (fail)
                  go_cut [] (fun wc => ∃ (kq : Nat) (x1165003_35 : Int), Aside0 (boscagelaw18_ModelSame.j3 kq a2 a0_0 a0_1 a0_2 a0_3 l0_4 a0_5 a1_0 a1_1 a1_2 a1_3 l1_4 a1_5 a0_0 x1165001_16 x1165002_30 x1165003_35 l0_4 (!a0_5) = some r) ∧ Aside0 (kq ≤ kj30) ∧ Aside0 (Kd.V k40 40 wc w.heap.size (fun k_ => (P0_4_ k_ ∨ w.heap.size ≤ k_) ∧ k_ ≠ gb1161 ∧ k_ ≠ gb1162 ∧ k_ ≠ gb1164) (.slice A0_4 l0_4.length c0_4) l0_4) ∧ Aside0 (Kd.V k40 40 wc w.heap.size (fun k_ => (P0_4_ k_ ∨ w.heap.size ≤ k_) ∧ k_ ≠ gb1161 ∧ k_ ≠ gb1162 ∧ k_ ≠ gb1164) (.slice A0_4 l0_4.length c0_4) l0_4) ∧ Aside0 (wc.heap[gb1161]? = some (.cells #[.int .i64 a0_0, .bool a0_1, .int .i64 a0_2, .int .i64 a0_3, (.slice A0_4 l0_4.length c0_4), .bool a0_5] 84 (0, 0))) ∧ Aside0 (wc.heap[gb1162]? = some (.cells #[.int .i64 a1_0, .bool a1_1, .int .i64 a1_2, .int .i64 a1_3, (.slice A1_4 l1_4.length c1_4), .bool a1_5] 84 (0, 0))) ∧ Aside0 (wc.heap[gb1164]? = some (.cells #[.int .i64 a0_0, .bool x1165001_16, .int .i64 x1165002_30, .int .i64 x1165003_35, (.slice A0_4 l0_4.length c0_4), .bool (!a0_5)] 84 (0, 0))) ∧ Aside0 (Below w.heap.size w wc))
                  case first =>
                    have H := HC36.out
                    clear HC36
                    by_cases c37 : (Int.tmod a2 5) = 2
                    · rw [if_pos c37] at H
                      have c37b0 : ((Int.tmod a2 5) == 2) = true := beq_iff_eq.mpr c37
                      have c37b1 : ((Int.tmod a2 5) != 2) = false := bne_eq_false_iff_eq.mpr c37
                      clear c37
                      (first | rw [c37b0] | (simp only [i64_w, i32_w]; rw [c37b0]) | skip)
                      have H' := Aside0.mk H
                      clear H
                      have hnb38 := NB1164_1161.out
                      have hnc38 := NB1161_1164.out
                      have hnb39 := NB1164_1162.out
                      have hnc39 := NB1162_1164.out
                      have hcz40_0 : wc.cell? ⟨gb1164, 0, none⟩ = some (.int .i64 a0_0) := (blk_cell BK1164.out 0).trans rfl
                      have hcz40_1 : wc.cell? ⟨gb1164, 1, none⟩ = some (.bool x1165001_16) := (blk_cell BK1164.out 1).trans rfl
                      have hcz40_2 : wc.cell? ⟨gb1164, 2, none⟩ = some (.int .i64 x1165002_30) := (blk_cell BK1164.out 2).trans rfl
                      have hcz40_3 : wc.cell? ⟨gb1164, 3, none⟩ = some (.int .i64 a0_3) := (blk_cell BK1164.out 3).trans rfl
                      have hcz40_4 : wc.cell? ⟨gb1164, 4, none⟩ = some (.slice A0_4 l0_4.length c0_4) := (blk_cell BK1164.out 4).trans rfl
                      have hcz40_5 : wc.cell? ⟨gb1164, 5, none⟩ = some (.bool (!a0_5)) := (blk_cell BK1164.out 5).trans rfl
                      have hfz40_0 := blk_frozen BK1164.out 0
                      have hfz40_1 := blk_frozen BK1164.out 1
                      have hfz40_2 := blk_frozen BK1164.out 2
                      have hfz40_3 := blk_frozen BK1164.out 3
                      have hfz40_4 := blk_frozen BK1164.out 4
                      have hfz40_5 := blk_frozen BK1164.out 5
                      go_wp2
                      go_meet
                      case rel => exact ⟨_, (Go.bits .xor .i64 a0_3 1), H', ⟨by have := HJ5.out; have := HJ16.out; have := HJ30.out; first | omega | exact Nat.le_refl _⟩, ⟨by (with_reducible repeat (first | apply Kd.V_alloc | apply Kd.V_drewN | apply Kd.V_drew)); exact Kd.V_mono (Kd.V_far (p := ⟨gb1164, 3, none⟩) (Kd.V_mono HO_1162004.out (fun k_ hk => (⟨hk, hk.2.2.2⟩ : _ ∧ k_ ≠ gb1164))) (fun _ hk => hk.2) (.int .i64 (Go.bits .xor .i64 a0_3 1))) (fun _ hk => ⟨hk.1.1, ⟨hk.1.2.1, ⟨hk.1.2.2.1, hk.1.2.2.2⟩⟩⟩)⟩, ⟨by (with_reducible repeat (first | apply Kd.V_alloc | apply Kd.V_drewN | apply Kd.V_drew)); exact Kd.V_mono (Kd.V_far (p := ⟨gb1164, 3, none⟩) (Kd.V_mono HO_1165004.out (fun k_ hk => (⟨hk, hk.2.2.2⟩ : _ ∧ k_ ≠ gb1164))) (fun _ hk => hk.2) (.int .i64 (Go.bits .xor .i64 a0_3 1))) (fun _ hk => ⟨hk.1.1, ⟨hk.1.2.1, ⟨hk.1.2.2.1, hk.1.2.2.2⟩⟩⟩)⟩, ⟨by (with_reducible repeat (first | refine blk_drewN ?_ _ | refine blk_drew ?_ | refine blk_alloc ?_ _)); refine blk_far ?_ NB1161_1164.out _; (with_reducible repeat (first | refine blk_drewN ?_ _ | refine blk_drew ?_ | refine blk_alloc ?_ _)); exact BK1161.out⟩, ⟨by (with_reducible repeat (first | refine blk_drewN ?_ _ | refine blk_drew ?_ | refine blk_alloc ?_ _)); refine blk_far ?_ NB1162_1164.out _; (with_reducible repeat (first | refine blk_drewN ?_ _ | refine blk_drew ?_ | refine blk_alloc ?_ _)); exact BK1162.out⟩, ⟨by (with_reducible repeat (first | refine blk_drewN ?_ _ | refine blk_drew ?_ | refine blk_alloc ?_ _)); refine blk_put (cs := #[.int .i64 a0_0, .bool x1165001_16, .int .i64 x1165002_30, .int .i64 a0_3, .slice A0_4 l0_4.length c0_4, .bool (!a0_5)]) ?_ 3 _ rfl; (with_reducible repeat (first | refine blk_drewN ?_ _ | refine blk_drew ?_ | refine blk_alloc ?_ _)); exact BK1164.out⟩, ⟨by repeat (first | (with_reducible first | exact HB.out | apply below_alloc | apply pw_below_drewN | apply below_drew1 | refine below_set ?_ GE1161.out | refine below_set ?_ GE1162.out | refine below_set ?_ GE1164.out) | exact HB.out)⟩⟩
                    · rw [if_neg c37] at H
                      have c37b0 : ((Int.tmod a2 5) == 2) = false := beq_eq_false_iff_ne.mpr c37
                      have c37b1 : ((Int.tmod a2 5) != 2) = true := bne_iff_ne.mpr c37
                      (first | rw [c37b0] | (simp only [i64_w, i32_w]; rw [c37b0]) | skip)
                      have H' := Aside0.mk H
                      clear H
                      go_wp2
                      go_meet
                      case rel => exact ⟨_, (a0_3), H', ⟨by have := HJ5.out; have := HJ16.out; have := HJ30.out; first | omega | exact Nat.le_refl _⟩, ⟨by (with_reducible repeat (first | apply Kd.V_alloc | apply Kd.V_drewN | apply Kd.V_drew)); exact HO_1162004.out⟩, ⟨by (with_reducible repeat (first | apply Kd.V_alloc | apply Kd.V_drewN | apply Kd.V_drew)); exact HO_1165004.out⟩, ⟨by (with_reducible repeat (first | refine blk_drewN ?_ _ | refine blk_drew ?_ | refine blk_alloc ?_ _)); exact BK1161.out⟩, ⟨by (with_reducible repeat (first | refine blk_drewN ?_ _ | refine blk_drew ?_ | refine blk_alloc ?_ _)); exact BK1162.out⟩, ⟨by (with_reducible repeat (first | refine blk_drewN ?_ _ | refine blk_drew ?_ | refine blk_alloc ?_ _)); exact BK1164.out⟩, ⟨by repeat (first | (with_reducible first | exact HB.out | apply below_alloc | apply pw_below_drewN | apply below_drew1 | refine below_set ?_ GE1161.out | refine below_set ?_ GE1162.out | refine below_set ?_ GE1164.out) | exact HB.out)⟩⟩
                  case rest =>
                    clear HC36
                    try clear c1
                    try clear c2
                    try clear p2
                    try clear c3
                    try clear c5
                    try clear c7
                    try clear c10
                    try clear c10b0
                    try clear c10b1
                    try clear c11
                    try clear c13
                    try clear c16
                    try clear c18
                    try clear c21
                    try clear c22
                    try clear c25
                    try clear c25b0
                    try clear c25b1
                    try clear c26
                    try clear c27
                    try clear c29
                    try clear c32
                    try clear c32b0
                    try clear c32b1
                    try clear c33
                    try clear c34
                    try clear c37
                    try clear c37b0
                    try clear c37b1
                    try clear c38
                    try clear c39
                    try clear hcz12_0
                    try clear hcz12_1
                    try clear hcz12_2
                    try clear hcz12_3
                    try clear hcz12_4
                    try clear hcz12_5
                    try clear hcz14_0
                    try clear hcz14_1
                    try clear hcz14_2
                    try clear hcz14_3
                    try clear hcz14_4
                    try clear hcz14_5
                    try clear hcz15_0
                    try clear hcz15_1
                    try clear hcz15_2
                    try clear hcz15_3
                    try clear hcz15_4
                    try clear hcz15_5
                    try clear hcz19_0
                    try clear hcz19_1
                    try clear hcz19_2
                    try clear hcz19_3
                    try clear hcz19_4
                    try clear hcz19_5
                    try clear hcz23_0
                    try clear hcz23_1
                    try clear hcz23_2
                    try clear hcz23_3
                    try clear hcz23_4
                    try clear hcz23_5
                    try clear hcz24_0
                    try clear hcz24_1
                    try clear hcz24_2
                    try clear hcz24_3
                    try clear hcz24_4
                    try clear hcz24_5
                    try clear hcz28_0
                    try clear hcz28_1
                    try clear hcz28_2
                    try clear hcz28_3
                    try clear hcz28_4
                    try clear hcz28_5
                    try clear hcz30_0
                    try clear hcz30_1
                    try clear hcz30_2
                    try clear hcz30_3
                    try clear hcz30_4
                    try clear hcz30_5
                    try clear hcz35_0
                    try clear hcz35_1
                    try clear hcz35_2
                    try clear hcz35_3
                    try clear hcz35_4
                    try clear hcz35_5
                    try clear hcz40_0
                    try clear hcz40_1
                    try clear hcz40_2
                    try clear hcz40_3
                    try clear hcz40_4
                    try clear hcz40_5
                    try clear hfz12_0
                    try clear hfz12_1
                    try clear hfz12_2
                    try clear hfz12_3
                    try clear hfz12_4
                    try clear hfz12_5
                    try clear hfz14_0
                    try clear hfz14_1
                    try clear hfz14_2
                    try clear hfz14_3
                    try clear hfz14_4
                    try clear hfz14_5
                    try clear hfz15_0
                    try clear hfz15_1
                    try clear hfz15_2
                    try clear hfz15_3
                    try clear hfz15_4
                    try clear hfz15_5
                    try clear hfz19_0
                    try clear hfz19_1
                    try clear hfz19_2
                    try clear hfz19_3
                    try clear hfz19_4
                    try clear hfz19_5
                    try clear hfz23_0
                    try clear hfz23_1
                    try clear hfz23_2
                    try clear hfz23_3
                    try clear hfz23_4
                    try clear hfz23_5
                    try clear hfz24_0
                    try clear hfz24_1
                    try clear hfz24_2
                    try clear hfz24_3
                    try clear hfz24_4
                    try clear hfz24_5
                    try clear hfz28_0
                    try clear hfz28_1
                    try clear hfz28_2
                    try clear hfz28_3
                    try clear hfz28_4
                    try clear hfz28_5
                    try clear hfz30_0
                    try clear hfz30_1
                    try clear hfz30_2
                    try clear hfz30_3
                    try clear hfz30_4
                    try clear hfz30_5
                    try clear hfz35_0
                    try clear hfz35_1
                    try clear hfz35_2
                    try clear hfz35_3
                    try clear hfz35_4
                    try clear hfz35_5
                    try clear hfz40_0
                    try clear hfz40_1
                    try clear hfz40_2
                    try clear hfz40_3
                    try clear hfz40_4
                    try clear hfz40_5
                    try clear p2
                    obtain ⟨kq, x1165003_35, HA, HJ35, HO_1162004, HO_1165004, BK1161, BK1162, BK1164, HB⟩ := hcut
                    cases kq with
                    | zero => exact absurd HA.out (by simp [boscagelaw18_ModelSame.j3])
                    | succ kj35 =>
                      have H := HA.out
                      clear HA
                      simp only [boscagelaw18_ModelSame.j3] at H
                      have HC41 := Aside0.mk H
                      clear H
                      go_upto_if 48 with (fail)
                      go_cut [] (fun wc => ∃ (kq : Nat) (x1165004_40 : List (S40)) (u1165004 : Value), Aside0 (boscagelaw18_ModelSame.j4 kq a2 a0_0 a0_1 a0_2 a0_3 l0_4 a0_5 a1_0 a1_1 a1_2 a1_3 l1_4 a1_5 a0_0 x1165001_16 x1165002_30 x1165003_35 x1165004_40 (!a0_5) = some r) ∧ Aside0 (kq ≤ kj35) ∧ Aside0 (Kd.V k40 40 wc w.heap.size (fun k_ => (P0_4_ k_ ∨ w.heap.size ≤ k_) ∧ k_ ≠ gb1161 ∧ k_ ≠ gb1162 ∧ k_ ≠ gb1164) (.slice A0_4 l0_4.length c0_4) l0_4) ∧ Aside0 (Kd.V k40 40 wc w.heap.size (fun k_ => (P0_4_ k_ ∨ w.heap.size ≤ k_) ∧ k_ ≠ gb1161 ∧ k_ ≠ gb1162 ∧ k_ ≠ gb1164) u1165004 x1165004_40) ∧ Aside0 (wc.heap[gb1161]? = some (.cells #[.int .i64 a0_0, .bool a0_1, .int .i64 a0_2, .int .i64 a0_3, (.slice A0_4 l0_4.length c0_4), .bool a0_5] 84 (0, 0))) ∧ Aside0 (wc.heap[gb1162]? = some (.cells #[.int .i64 a1_0, .bool a1_1, .int .i64 a1_2, .int .i64 a1_3, (.slice A1_4 l1_4.length c1_4), .bool a1_5] 84 (0, 0))) ∧ Aside0 (wc.heap[gb1164]? = some (.cells #[.int .i64 a0_0, .bool x1165001_16, .int .i64 x1165002_30, .int .i64 x1165003_35, u1165004, .bool (!a0_5)] 84 (0, 0))) ∧ Aside0 (Below w.heap.size w wc))
                      case first =>
                        have H := HC41.out
                        clear HC41
                        by_cases c42 : (Int.tmod a2 5) = 3
                        · rw [if_pos c42] at H
                          have c42b0 : ((Int.tmod a2 5) == 3) = true := beq_iff_eq.mpr c42
                          have c42b1 : ((Int.tmod a2 5) != 3) = false := bne_eq_false_iff_eq.mpr c42
                          clear c42
                          (first | rw [c42b0] | (simp only [i64_w, i32_w]; rw [c42b0]) | skip)
                          obtain ⟨y1165, hy1165⟩ : ∃ y_ : List (S40), y_ = (([] : List (S40))) := ⟨_, rfl⟩
                          replace H : (if y1165.length + l0_4.length < 8796093022208 then ((some (y1165 ++ l0_4 : List (S40))).bind fun y1168 => (if y1168.length < 8796093022208 then (boscagelaw18_ModelSame.j4 kj35 a2 a0_0 a0_1 a0_2 a0_3 l0_4 a0_5 a1_0 a1_1 a1_2 a1_3 l1_4 a1_5 a0_0 x1165001_16 x1165002_30 x1165003_35 (y1168 ++ [(⟨0, 0⟩ : S40)]) (!a0_5)) else (none))) else (none)) = some r := by first | (rw [hy1165]; with_reducible exact H) | (have H2_ := (Option.bind_some _ _).symm.trans H; rw [hy1165]; with_reducible exact H2_) | (have H2_ := (Option.bind_some _ _).symm.trans H; with_reducible exact H2_) | with_reducible exact H | (rw [hy1165]; exact H) | exact H
                          have Ny1165 := Aside0.mk hy1165
                          clear hy1165
                          by_cases c43 : y1165.length + l0_4.length < 8796093022208
                          · rw [if_pos c43] at H
                            have LMc43 := Aside0.mk c43
                            clear c43
                            obtain ⟨y1168, hy1168⟩ : ∃ y_ : List (S40), y_ = (y1165 ++ l0_4) := ⟨_, rfl⟩
                            replace H : (if y1168.length < 8796093022208 then (boscagelaw18_ModelSame.j4 kj35 a2 a0_0 a0_1 a0_2 a0_3 l0_4 a0_5 a1_0 a1_1 a1_2 a1_3 l1_4 a1_5 a0_0 x1165001_16 x1165002_30 x1165003_35 (y1168 ++ [(⟨0, 0⟩ : S40)]) (!a0_5)) else (none)) = some r := by first | (rw [hy1168]; with_reducible exact H) | (have H2_ := (Option.bind_some _ _).symm.trans H; rw [hy1168]; with_reducible exact H2_) | (have H2_ := (Option.bind_some _ _).symm.trans H; with_reducible exact H2_) | with_reducible exact H | (rw [hy1168]; exact H) | exact H
                            have Ny1168 := Aside0.mk hy1168
                            clear hy1168
                            by_cases c44 : y1168.length < 8796093022208
                            · rw [if_pos c44] at H
                              have LMc44 := Aside0.mk c44
                              clear c44
                              obtain ⟨y1171, hy1171⟩ : ∃ y_ : List (S40), y_ = (y1168 ++ [(⟨0, 0⟩ : S40)]) := ⟨_, rfl⟩
                              replace H : (boscagelaw18_ModelSame.j4 kj35 a2 a0_0 a0_1 a0_2 a0_3 l0_4 a0_5 a1_0 a1_1 a1_2 a1_3 l1_4 a1_5 a0_0 x1165001_16 x1165002_30 x1165003_35 y1171 (!a0_5)) = some r := by first | (rw [hy1171]; with_reducible exact H) | (have H2_ := (Option.bind_some _ _).symm.trans H; rw [hy1171]; with_reducible exact H2_) | (have H2_ := (Option.bind_some _ _).symm.trans H; with_reducible exact H2_) | with_reducible exact H | (rw [hy1171]; exact H) | exact H
                              have Ny1171 := Aside0.mk hy1171
                              clear hy1171
                              have H' := Aside0.mk H
                              clear H
                              go_wp2_with (first | ((with_reducible refine gate_dst (N := 49) rfl ?_); (try (refine gate_guard (by rfl) ?_; dsimp only)); refine Kd.R_lit k40 _ 40 ?hg (N := 49) ?hd (xs := ([] : List (S40))) (inner := []) (ok := fun _ => True) (okp := fun _ => True) ?hr ?hp (fun _ hk => hk) trivial (Below.refl _ _) (Nat.le_refl _) (by simp) ?_; (case hd => rfl); (case hg => rfl); (case hr => first | (go_simp; done) | (go_simp; rfl)); (case hp => exact (Reps.none _ _)); intro v1166 w45 ho46 hb hg_ hnew_; clear hg_ hnew_; (first | rw [← Ny1165.out] at ho46 | (simp only [Int.reduceToNat] at ho46; rw [← Ny1165.out] at ho46)); have n0_ := Aside0.mk (Kd.V_elder' (by (with_reducible repeat (first | apply Kd.V_alloc | apply Kd.V_drewN | apply Kd.V_drew)); exact HO_1162004.out) (Kd.R_base ho46) hb); have n1_ := Aside0.mk (Kd.V_elder' (by (with_reducible repeat (first | apply Kd.V_alloc | apply Kd.V_drewN | apply Kd.V_drew)); exact HO_1165004.out) (Kd.R_base ho46) hb); have n2_ := Aside0.mk (Kd.R_lower (Kd.R_newM (M := fun k_ => (w.heap.size ≤ k_)) ho46 (below_size (by repeat (first | (with_reducible first | exact HB.out | apply below_alloc | apply pw_below_drewN | apply below_drew1 | refine below_set ?_ GE1161.out | refine below_set ?_ GE1162.out | refine below_set ?_ GE1164.out) | exact HB.out))) (fun k_ h_ => h_)) (below_size (by repeat (first | (with_reducible first | exact HB.out | apply below_alloc | apply pw_below_drewN | apply below_drew1 | refine below_set ?_ GE1161.out | refine below_set ?_ GE1162.out | refine below_set ?_ GE1164.out) | exact HB.out)))); have n3_ := Aside0.mk (blk_below (g := gb1161) (o := .cells #[.int .i64 a0_0, .bool a0_1, .int .i64 a0_2, .int .i64 a0_3, .slice A0_4 l0_4.length c0_4, .bool a0_5] 84 (0, 0)) (by (with_reducible repeat (first | refine blk_drewN ?_ _ | refine blk_drew ?_ | refine blk_alloc ?_ _)); exact BK1161.out) hb); have n4_ := Aside0.mk (blk_below (g := gb1162) (o := .cells #[.int .i64 a1_0, .bool a1_1, .int .i64 a1_2, .int .i64 a1_3, .slice A1_4 l1_4.length c1_4, .bool a1_5] 84 (0, 0)) (by (with_reducible repeat (first | refine blk_drewN ?_ _ | refine blk_drew ?_ | refine blk_alloc ?_ _)); exact BK1162.out) hb); have n5_ := Aside0.mk (blk_below (g := gb1164) (o := .cells #[.int .i64 a0_0, .bool x1165001_16, .int .i64 x1165002_30, .int .i64 x1165003_35, .slice A0_4 l0_4.length c0_4, .bool (!a0_5)] 84 (0, 0)) (by (with_reducible repeat (first | refine blk_drewN ?_ _ | refine blk_drew ?_ | refine blk_alloc ?_ _)); exact BK1164.out) hb); have n6_ := Aside0.mk (below_step (by repeat (first | (with_reducible first | exact HB.out | apply below_alloc | apply pw_below_drewN | apply below_drew1 | refine below_set ?_ GE1161.out | refine below_set ?_ GE1162.out | refine below_set ?_ GE1164.out) | exact HB.out)) hb); clear HO_1162004; clear HO_1165004; clear BK1161; clear BK1162; clear BK1164; clear HB; have HO_1162004 := n0_; have HO_1165004 := n1_; have HO1167 := n2_; have BK1161 := n3_; have BK1162 := n4_; have BK1164 := n5_; have HB := n6_; clear n0_ n1_ n2_ n3_ n4_ n5_ n6_; clear hb ho46; have hnb47 := NB1161_1162.out; have hnc47 := NB1162_1161.out; have hnb48 := NB1161_1164.out; have hnc48 := NB1164_1161.out; have hcz49_0 : w45.cell? ⟨gb1161, 0, none⟩ = some (.int .i64 a0_0) := (blk_cell BK1161.out 0).trans rfl; have hcz49_1 : w45.cell? ⟨gb1161, 1, none⟩ = some (.bool a0_1) := (blk_cell BK1161.out 1).trans rfl; have hcz49_2 : w45.cell? ⟨gb1161, 2, none⟩ = some (.int .i64 a0_2) := (blk_cell BK1161.out 2).trans rfl; have hcz49_3 : w45.cell? ⟨gb1161, 3, none⟩ = some (.int .i64 a0_3) := (blk_cell BK1161.out 3).trans rfl; have hcz49_4 : w45.cell? ⟨gb1161, 4, none⟩ = some (.slice A0_4 l0_4.length c0_4) := (blk_cell BK1161.out 4).trans rfl; have hcz49_5 : w45.cell? ⟨gb1161, 5, none⟩ = some (.bool a0_5) := (blk_cell BK1161.out 5).trans rfl; have hfz49_0 := blk_frozen BK1161.out 0; have hfz49_1 := blk_frozen BK1161.out 1; have hfz49_2 := blk_frozen BK1161.out 2; have hfz49_3 := blk_frozen BK1161.out 3; have hfz49_4 := blk_frozen BK1161.out 4; have hfz49_5 := blk_frozen BK1161.out 5) | ((with_reducible refine gate_builtin (b := .append) (xs := #[.tmp 49, .tmp 51]) rfl ?_); (try (refine gate_guard (by rfl) ?_; dsimp only)); at_builtin; refine Kd.R_append_rows k40 (w0 := w) w.heap.size rfl (.tmp 49) (.tmp 51) 34 40 (.agg #[(.int .i64 0), (.int .i64 0)]) 16 rfl Try.underlying34 info40 rfl (by decide) (by omega) v1166 y1165 l0_4 _ _ _ (fun k_ => (w.heap.size ≤ k_)) (fun _ => False) rfl rfl ?aO ?aR (fun _ _ h => h) (fun _ h => h.elim) ?aF ?aB ?aS ?aL ?_; (case aR => repeat (first | exact (Kd.V_reads' HO_1162004.out).2.2 | (with_reducible refine Kd.C_alloc ?_ _) | (with_reducible refine Kd.C_drewN ?_ _) | (with_reducible refine Kd.C_drew ?_))); (case aB => exact (by repeat (first | (with_reducible first | exact HB.out | apply below_alloc | apply pw_below_drewN | apply below_drew1 | refine below_set ?_ GE1161.out | refine below_set ?_ GE1162.out | refine below_set ?_ GE1164.out) | exact HB.out))); (case aF => exact (fun k_ hk => (Nat.le_trans (below_size (by repeat (first | (with_reducible first | exact HB.out | apply below_alloc | apply pw_below_drewN | apply below_drew1 | refine below_set ?_ GE1161.out | refine below_set ?_ GE1162.out | refine below_set ?_ GE1164.out) | exact HB.out))) hk))); (case aO => exact (by (with_reducible repeat (first | apply Kd.R_alloc | apply Kd.R_drewN | apply Kd.R_drew)); exact Kd.R_mono HO1167.out (fun _ hk => hk.1))); (case aS => exact (below_size (by repeat (first | (with_reducible first | exact HB.out | apply below_alloc | apply pw_below_drewN | apply below_drew1 | refine below_set ?_ GE1161.out | refine below_set ?_ GE1162.out | refine below_set ?_ GE1164.out) | exact HB.out)))); (case aL => have := LMc43.out; omega); intro v1169 w50 ho hb hg hat; rw [← Ny1168.out] at ho; have n0_ := Aside0.mk (Kd.V_afterv (ok := (fun k_ => (P0_4_ k_ ∨ w.heap.size ≤ k_) ∧ k_ ≠ gb1161 ∧ k_ ≠ gb1162 ∧ k_ ≠ gb1164)) (by (with_reducible repeat (first | apply Kd.V_alloc | apply Kd.V_drewN | apply Kd.V_drew)); exact HO_1162004.out) hg hat); have n1_ := Aside0.mk (Kd.V_afterv (ok := (fun k_ => (P0_4_ k_ ∨ w.heap.size ≤ k_) ∧ k_ ≠ gb1161 ∧ k_ ≠ gb1162 ∧ k_ ≠ gb1164)) (by (with_reducible repeat (first | apply Kd.V_alloc | apply Kd.V_drewN | apply Kd.V_drew)); exact HO_1165004.out) hg hat); have n2_ := Aside0.mk (blk_grown (g := gb1161) (o := .cells #[.int .i64 a0_0, .bool a0_1, .int .i64 a0_2, .int .i64 a0_3, .slice A0_4 l0_4.length c0_4, .bool a0_5] 84 (0, 0)) (by (with_reducible repeat (first | refine blk_drewN ?_ _ | refine blk_drew ?_ | refine blk_alloc ?_ _)); exact BK1161.out) hg (Kd.R_ne HO1167.out BK1161.out (by decide))); have n3_ := Aside0.mk (blk_grown (g := gb1162) (o := .cells #[.int .i64 a1_0, .bool a1_1, .int .i64 a1_2, .int .i64 a1_3, .slice A1_4 l1_4.length c1_4, .bool a1_5] 84 (0, 0)) (by (with_reducible repeat (first | refine blk_drewN ?_ _ | refine blk_drew ?_ | refine blk_alloc ?_ _)); exact BK1162.out) hg (Kd.R_ne HO1167.out BK1162.out (by decide))); have n4_ := Aside0.mk (blk_grown (g := gb1164) (o := .cells #[.int .i64 a0_0, .bool x1165001_16, .int .i64 x1165002_30, .int .i64 x1165003_35, .slice A0_4 l0_4.length c0_4, .bool (!a0_5)] 84 (0, 0)) (by (with_reducible repeat (first | refine blk_drewN ?_ _ | refine blk_drew ?_ | refine blk_alloc ?_ _)); exact BK1164.out) hg (Kd.R_ne HO1167.out BK1164.out (by decide))); have n5_ := Aside0.mk (hb); have n6_ := Aside0.mk (ho); clear HO_1162004; clear HO_1165004; clear BK1161; clear BK1162; clear BK1164; clear HB; clear HO1167; have HO_1162004 := n0_; have HO_1165004 := n1_; have BK1161 := n2_; have BK1162 := n3_; have BK1164 := n4_; have HB := n5_; have HO1170 := n6_; clear n0_ n1_ n2_ n3_ n4_ n5_ n6_; clear ho hb hg hat) | ((with_reducible refine gate_builtin (b := .append) (xs := #[.tmp 52, .tmp 54]) rfl ?_); (try (refine gate_guard (by rfl) ?_; dsimp only)); at_builtin; refine Kd.R_append k40 (w0 := w) w.heap.size rfl (.tmp 52) (.tmp 54) 34 40 (.agg #[(.int .i64 0), (.int .i64 0)]) 16 rfl Try.underlying34 info40 rfl (by decide) (by omega) v1169 y1168 (⟨0, 0⟩ : S40) [.int .i64 0, .int .i64 0] (fun k_ => (w.heap.size ≤ k_)) (fun _ => False) rfl rfl ?aP (fun _ hk => hk.elim) ?aF ?aO ?aB ?aS ?aL ?_; (case aP => exact k40_mkM _ _ _ (⟨0, 0⟩ : S40)); (case aB => exact (by repeat (first | (with_reducible first | exact HB.out | apply below_alloc | apply pw_below_drewN | apply below_drew1 | refine below_set ?_ GE1161.out | refine below_set ?_ GE1162.out | refine below_set ?_ GE1164.out) | exact HB.out))); (case aF => exact (fun k_ hk => (Nat.le_trans (below_size (by repeat (first | (with_reducible first | exact HB.out | apply below_alloc | apply pw_below_drewN | apply below_drew1 | refine below_set ?_ GE1161.out | refine below_set ?_ GE1162.out | refine below_set ?_ GE1164.out) | exact HB.out))) hk))); (case aO => exact (by (with_reducible repeat (first | apply Kd.R_alloc | apply Kd.R_drewN | apply Kd.R_drew)); exact HO1170.out)); (case aS => exact (below_size (by repeat (first | (with_reducible first | exact HB.out | apply below_alloc | apply pw_below_drewN | apply below_drew1 | refine below_set ?_ GE1161.out | refine below_set ?_ GE1162.out | refine below_set ?_ GE1164.out) | exact HB.out)))); (case aL => have := LMc44.out; omega); intro v1172 w51 ho hb hg hat; rw [← Ny1171.out] at ho; have n0_ := Aside0.mk (Kd.V_afterv (ok := (fun k_ => (P0_4_ k_ ∨ w.heap.size ≤ k_) ∧ k_ ≠ gb1161 ∧ k_ ≠ gb1162 ∧ k_ ≠ gb1164)) (by (with_reducible repeat (first | apply Kd.V_alloc | apply Kd.V_drewN | apply Kd.V_drew)); exact HO_1162004.out) hg hat); have n1_ := Aside0.mk (Kd.V_afterv (ok := (fun k_ => (P0_4_ k_ ∨ w.heap.size ≤ k_) ∧ k_ ≠ gb1161 ∧ k_ ≠ gb1162 ∧ k_ ≠ gb1164)) (by (with_reducible repeat (first | apply Kd.V_alloc | apply Kd.V_drewN | apply Kd.V_drew)); exact HO_1165004.out) hg hat); have n2_ := Aside0.mk (blk_grown (g := gb1161) (o := .cells #[.int .i64 a0_0, .bool a0_1, .int .i64 a0_2, .int .i64 a0_3, .slice A0_4 l0_4.length c0_4, .bool a0_5] 84 (0, 0)) (by (with_reducible repeat (first | refine blk_drewN ?_ _ | refine blk_drew ?_ | refine blk_alloc ?_ _)); exact BK1161.out) hg (Kd.R_ne HO1170.out BK1161.out (by decide))); have n3_ := Aside0.mk (blk_grown (g := gb1162) (o := .cells #[.int .i64 a1_0, .bool a1_1, .int .i64 a1_2, .int .i64 a1_3, .slice A1_4 l1_4.length c1_4, .bool a1_5] 84 (0, 0)) (by (with_reducible repeat (first | refine blk_drewN ?_ _ | refine blk_drew ?_ | refine blk_alloc ?_ _)); exact BK1162.out) hg (Kd.R_ne HO1170.out BK1162.out (by decide))); have n4_ := Aside0.mk (blk_grown (g := gb1164) (o := .cells #[.int .i64 a0_0, .bool x1165001_16, .int .i64 x1165002_30, .int .i64 x1165003_35, .slice A0_4 l0_4.length c0_4, .bool (!a0_5)] 84 (0, 0)) (by (with_reducible repeat (first | refine blk_drewN ?_ _ | refine blk_drew ?_ | refine blk_alloc ?_ _)); exact BK1164.out) hg (Kd.R_ne HO1170.out BK1164.out (by decide))); have n5_ := Aside0.mk (hb); have n6_ := Aside0.mk (ho); clear HO_1162004; clear HO_1165004; clear BK1161; clear BK1162; clear BK1164; clear HB; clear HO1170; have HO_1162004 := n0_; have HO_1165004 := n1_; have BK1161 := n2_; have BK1162 := n3_; have BK1164 := n4_; have HB := n5_; have HO1173 := n6_; clear n0_ n1_ n2_ n3_ n4_ n5_ n6_; clear ho hb hg hat; obtain ⟨Ao52, co52, eo52⟩ := Kd.R_slice HO1173.out; subst eo52; have hnb53 := NB1164_1162.out; have hnc53 := NB1162_1164.out; have hcz54_0 : w51.cell? ⟨gb1164, 0, none⟩ = some (.int .i64 a0_0) := (blk_cell BK1164.out 0).trans rfl; have hcz54_1 : w51.cell? ⟨gb1164, 1, none⟩ = some (.bool x1165001_16) := (blk_cell BK1164.out 1).trans rfl; have hcz54_2 : w51.cell? ⟨gb1164, 2, none⟩ = some (.int .i64 x1165002_30) := (blk_cell BK1164.out 2).trans rfl; have hcz54_3 : w51.cell? ⟨gb1164, 3, none⟩ = some (.int .i64 x1165003_35) := (blk_cell BK1164.out 3).trans rfl; have hcz54_4 : w51.cell? ⟨gb1164, 4, none⟩ = some (.slice A0_4 l0_4.length c0_4) := (blk_cell BK1164.out 4).trans rfl; have hcz54_5 : w51.cell? ⟨gb1164, 5, none⟩ = some (.bool (!a0_5)) := (blk_cell BK1164.out 5).trans rfl; have hfz54_0 := blk_frozen BK1164.out 0; have hfz54_1 := blk_frozen BK1164.out 1; have hfz54_2 := blk_frozen BK1164.out 2; have hfz54_3 := blk_frozen BK1164.out 3; have hfz54_4 := blk_frozen BK1164.out 4; have hfz54_5 := blk_frozen BK1164.out 5))
                              go_meet
                              case rel => exact ⟨_, (y1171), (.slice Ao52 y1171.length co52), H', ⟨by have := HJ5.out; have := HJ16.out; have := HJ30.out; have := HJ35.out; first | omega | exact Nat.le_refl _⟩, ⟨by (with_reducible repeat (first | apply Kd.V_alloc | apply Kd.V_drewN | apply Kd.V_drew)); exact Kd.V_mono (Kd.V_far (p := ⟨gb1164, 4, none⟩) (Kd.V_mono HO_1162004.out (fun k_ hk => (⟨hk, hk.1.2.2.2⟩ : _ ∧ k_ ≠ gb1164))) (fun _ hk => hk.2) (.slice Ao52 y1171.length co52)) (fun _ hk => ⟨hk.1.1.1, ⟨hk.1.1.2.1, ⟨hk.1.1.2.2.1, hk.1.1.2.2.2⟩⟩⟩)⟩, ⟨Kd.V_mono (Kd.R_V (by (with_reducible repeat (first | apply Kd.R_alloc | apply Kd.R_drewN | apply Kd.R_drew)); exact Kd.R_mono (Kd.R_far (p := ⟨gb1164, 4, none⟩) (Kd.R_types (Kd.R_types (Kd.R_types (Kd.R_types HO1173.out BK1161.out (by decide)) BK1162.out (by decide)) BK1164.out (by decide)) BK1164.out (by decide)) (fun _ hk => hk.2) (.slice Ao52 y1171.length co52)) (fun k_ hk => (⟨hk.1.1.1.1, ⟨hk.1.1.1.2, ⟨hk.1.1.2, hk.1.2⟩⟩⟩ : (w.heap.size ≤ k_) ∧ k_ ≠ gb1161 ∧ k_ ≠ gb1162 ∧ k_ ≠ gb1164)))) (fun k_ hk => by first | exact ⟨(.inr (hk.1)), hk.2⟩ | exact (.inr (hk)))⟩, ⟨by (with_reducible repeat (first | refine blk_drewN ?_ _ | refine blk_drew ?_ | refine blk_alloc ?_ _)); refine blk_far ?_ NB1161_1164.out _; (with_reducible repeat (first | refine blk_drewN ?_ _ | refine blk_drew ?_ | refine blk_alloc ?_ _)); exact BK1161.out⟩, ⟨by (with_reducible repeat (first | refine blk_drewN ?_ _ | refine blk_drew ?_ | refine blk_alloc ?_ _)); refine blk_far ?_ NB1162_1164.out _; (with_reducible repeat (first | refine blk_drewN ?_ _ | refine blk_drew ?_ | refine blk_alloc ?_ _)); exact BK1162.out⟩, ⟨by (with_reducible repeat (first | refine blk_drewN ?_ _ | refine blk_drew ?_ | refine blk_alloc ?_ _)); refine blk_put (cs := #[.int .i64 a0_0, .bool x1165001_16, .int .i64 x1165002_30, .int .i64 x1165003_35, .slice A0_4 l0_4.length c0_4, .bool (!a0_5)]) ?_ 4 _ rfl; (with_reducible repeat (first | refine blk_drewN ?_ _ | refine blk_drew ?_ | refine blk_alloc ?_ _)); exact BK1164.out⟩, ⟨by repeat (first | (with_reducible first | exact HB.out | apply below_alloc | apply pw_below_drewN | apply below_drew1 | refine below_set ?_ GE1161.out | refine below_set ?_ GE1162.out | refine below_set ?_ GE1164.out) | exact HB.out)⟩⟩
                            · rw [if_neg c44] at H
                              exact absurd H (by simp)
                          · rw [if_neg c43] at H
                            exact absurd H (by simp)
                        · rw [if_neg c42] at H
                          have c42b0 : ((Int.tmod a2 5) == 3) = false := beq_eq_false_iff_ne.mpr c42
                          have c42b1 : ((Int.tmod a2 5) != 3) = true := bne_iff_ne.mpr c42
                          (first | rw [c42b0] | (simp only [i64_w, i32_w]; rw [c42b0]) | skip)
                          have H' := Aside0.mk H
                          clear H
                          go_wp2
                          go_meet
                          case rel => exact ⟨_, (l0_4), (.slice A0_4 l0_4.length c0_4), H', ⟨by have := HJ5.out; have := HJ16.out; have := HJ30.out; have := HJ35.out; first | omega | exact Nat.le_refl _⟩, ⟨by (with_reducible repeat (first | apply Kd.V_alloc | apply Kd.V_drewN | apply Kd.V_drew)); exact HO_1162004.out⟩, ⟨by (with_reducible repeat (first | apply Kd.V_alloc | apply Kd.V_drewN | apply Kd.V_drew)); exact HO_1165004.out⟩, ⟨by (with_reducible repeat (first | refine blk_drewN ?_ _ | refine blk_drew ?_ | refine blk_alloc ?_ _)); exact BK1161.out⟩, ⟨by (with_reducible repeat (first | refine blk_drewN ?_ _ | refine blk_drew ?_ | refine blk_alloc ?_ _)); exact BK1162.out⟩, ⟨by (with_reducible repeat (first | refine blk_drewN ?_ _ | refine blk_drew ?_ | refine blk_alloc ?_ _)); exact BK1164.out⟩, ⟨by repeat (first | (with_reducible first | exact HB.out | apply below_alloc | apply pw_below_drewN | apply below_drew1 | refine below_set ?_ GE1161.out | refine below_set ?_ GE1162.out | refine below_set ?_ GE1164.out) | exact HB.out)⟩⟩
                      case rest =>
                        clear HC41
                        try clear c1
                        try clear c2
                        try clear p2
                        try clear c3
                        try clear c4
                        try clear c5
                        try clear c7
                        try clear c10
                        try clear c10b0
                        try clear c10b1
                        try clear c11
                        try clear c13
                        try clear c16
                        try clear c18
                        try clear c21
                        try clear c22
                        try clear c25
                        try clear c25b0
                        try clear c25b1
                        try clear c26
                        try clear c27
                        try clear c29
                        try clear c32
                        try clear c32b0
                        try clear c32b1
                        try clear c33
                        try clear c34
                        try clear c37
                        try clear c37b0
                        try clear c37b1
                        try clear c38
                        try clear c39
                        try clear c42
                        try clear c42b0
                        try clear c42b1
                        try clear c43
                        try clear c44
                        try clear c47
                        try clear c48
                        try clear c53
                        try clear hcz12_0
                        try clear hcz12_1
                        try clear hcz12_2
                        try clear hcz12_3
                        try clear hcz12_4
                        try clear hcz12_5
                        try clear hcz14_0
                        try clear hcz14_1
                        try clear hcz14_2
                        try clear hcz14_3
                        try clear hcz14_4
                        try clear hcz14_5
                        try clear hcz15_0
                        try clear hcz15_1
                        try clear hcz15_2
                        try clear hcz15_3
                        try clear hcz15_4
                        try clear hcz15_5
                        try clear hcz19_0
                        try clear hcz19_1
                        try clear hcz19_2
                        try clear hcz19_3
                        try clear hcz19_4
                        try clear hcz19_5
                        try clear hcz23_0
                        try clear hcz23_1
                        try clear hcz23_2
                        try clear hcz23_3
                        try clear hcz23_4
                        try clear hcz23_5
                        try clear hcz24_0
                        try clear hcz24_1
                        try clear hcz24_2
                        try clear hcz24_3
                        try clear hcz24_4
                        try clear hcz24_5
                        try clear hcz28_0
                        try clear hcz28_1
                        try clear hcz28_2
                        try clear hcz28_3
                        try clear hcz28_4
                        try clear hcz28_5
                        try clear hcz30_0
                        try clear hcz30_1
                        try clear hcz30_2
                        try clear hcz30_3
                        try clear hcz30_4
                        try clear hcz30_5
                        try clear hcz35_0
                        try clear hcz35_1
                        try clear hcz35_2
                        try clear hcz35_3
                        try clear hcz35_4
                        try clear hcz35_5
                        try clear hcz40_0
                        try clear hcz40_1
                        try clear hcz40_2
                        try clear hcz40_3
                        try clear hcz40_4
                        try clear hcz40_5
                        try clear hcz49_0
                        try clear hcz49_1
                        try clear hcz49_2
                        try clear hcz49_3
                        try clear hcz49_4
                        try clear hcz49_5
                        try clear hcz54_0
                        try clear hcz54_1
                        try clear hcz54_2
                        try clear hcz54_3
                        try clear hcz54_4
                        try clear hcz54_5
                        try clear hfz12_0
                        try clear hfz12_1
                        try clear hfz12_2
                        try clear hfz12_3
                        try clear hfz12_4
                        try clear hfz12_5
                        try clear hfz14_0
                        try clear hfz14_1
                        try clear hfz14_2
                        try clear hfz14_3
                        try clear hfz14_4
                        try clear hfz14_5
                        try clear hfz15_0
                        try clear hfz15_1
                        try clear hfz15_2
                        try clear hfz15_3
                        try clear hfz15_4
                        try clear hfz15_5
                        try clear hfz19_0
                        try clear hfz19_1
                        try clear hfz19_2
                        try clear hfz19_3
                        try clear hfz19_4
                        try clear hfz19_5
                        try clear hfz23_0
                        try clear hfz23_1
                        try clear hfz23_2
                        try clear hfz23_3
                        try clear hfz23_4
                        try clear hfz23_5
                        try clear hfz24_0
                        try clear hfz24_1
                        try clear hfz24_2
                        try clear hfz24_3
                        try clear hfz24_4
                        try clear hfz24_5
                        try clear hfz28_0
                        try clear hfz28_1
                        try clear hfz28_2
                        try clear hfz28_3
                        try clear hfz28_4
                        try clear hfz28_5
                        try clear hfz30_0
                        try clear hfz30_1
                        try clear hfz30_2
                        try clear hfz30_3
                        try clear hfz30_4
                        try clear hfz30_5
                        try clear hfz35_0
                        try clear hfz35_1
                        try clear hfz35_2
                        try clear hfz35_3
                        try clear hfz35_4
                        try clear hfz35_5
                        try clear hfz40_0
                        try clear hfz40_1
                        try clear hfz40_2
                        try clear hfz40_3
                        try clear hfz40_4
                        try clear hfz40_5
                        try clear hfz49_0
                        try clear hfz49_1
                        try clear hfz49_2
                        try clear hfz49_3
                        try clear hfz49_4
                        try clear hfz49_5
                        try clear hfz54_0
                        try clear hfz54_1
                        try clear hfz54_2
                        try clear hfz54_3
                        try clear hfz54_4
                        try clear hfz54_5
                        try clear p2
                        obtain ⟨kq, x1165004_40, u1165004, HA, HJ40, HO_1162004, HO_1165004, BK1161, BK1162, BK1164, HB⟩ := hcut
                        cases kq with
                        | zero => exact absurd HA.out (by simp [boscagelaw18_ModelSame.j4])
                        | succ kj40 =>
                          have H := HA.out
                          clear HA
                          simp only [boscagelaw18_ModelSame.j4] at H
                          replace H := Option.bind_eq_some_iff.mp H
                          obtain ⟨t1174, A550, H⟩ := H
                          replace H : ((boscagelaw18_Same.f kj40 a0_0 a0_1 a0_2 a0_3 l0_4 a0_5 a1_0 a1_1 a1_2 a1_3 l1_4 a1_5).bind fun t1175 => (if (t1174 == t1175) = true then ((model_Same.f kj40 a0_0 a0_1 a0_2 a0_3 l0_4 a0_5 a0_0 a0_1 a0_2 a0_3 l0_4 a0_5).bind fun t1176 => (if t1176 = true then ((model_Same.f kj40 a0_0 a0_1 a0_2 a0_3 l0_4 a0_5 a0_0 x1165001_16 x1165002_30 x1165003_35 x1165004_40 (!a0_5)).bind fun t1177 => (some (t1177 == ((Int.tmod a2 5) == 4)))) else (some false))) else (some false))) = some r := H
                          have A55 := Aside0.mk A550
                          clear A550
                          replace H := Option.bind_eq_some_iff.mp H
                          obtain ⟨t1175, A560, H⟩ := H
                          replace H : (if (t1174 == t1175) = true then ((model_Same.f kj40 a0_0 a0_1 a0_2 a0_3 l0_4 a0_5 a0_0 a0_1 a0_2 a0_3 l0_4 a0_5).bind fun t1176 => (if t1176 = true then ((model_Same.f kj40 a0_0 a0_1 a0_2 a0_3 l0_4 a0_5 a0_0 x1165001_16 x1165002_30 x1165003_35 x1165004_40 (!a0_5)).bind fun t1177 => (some (t1177 == ((Int.tmod a2 5) == 4)))) else (some false))) else (some false)) = some r := H
                          have A56 := Aside0.mk A560
                          clear A560
                          by_cases c57 : (t1174 == t1175) = true
                          · rw [if_pos c57] at H
                            have c57b0 : (t1174 == t1175) = true := c57
                            (try (have c57b1 : decide (t1174 = t1175) = true := by simpa using c57))
                            (try (have c57b2 : (t1174 == t1175) = true := by simpa using c57))
                            clear c57
                            replace H := Option.bind_eq_some_iff.mp H
                            obtain ⟨t1176, A580, H⟩ := H
                            replace H : (if t1176 = true then ((model_Same.f kj40 a0_0 a0_1 a0_2 a0_3 l0_4 a0_5 a0_0 x1165001_16 x1165002_30 x1165003_35 x1165004_40 (!a0_5)).bind fun t1177 => (some (t1177 == ((Int.tmod a2 5) == 4)))) else (some false)) = some r := H
                            have A58 := Aside0.mk A580
                            clear A580
                            by_cases c59 : t1176 = true
                            · subst c59
                              have H1 : ((model_Same.f kj40 a0_0 a0_1 a0_2 a0_3 l0_4 a0_5 a0_0 x1165001_16 x1165002_30 x1165003_35 x1165004_40 (!a0_5)).bind fun t1177 => (some (t1177 == ((Int.tmod a2 5) == 4)))) = some r := by rw [if_pos rfl] at H; exact H
                              clear H
                              have H := H1
                              clear H1
                              replace H := Option.bind_eq_some_iff.mp H
                              obtain ⟨t1177, A600, H⟩ := H
                              replace H : (some (t1177 == ((Int.tmod a2 5) == 4))) = some r := H
                              have A60 := Aside0.mk A600
                              clear A600
                              obtain rfl := Option.some.inj H
                              try go_wp2
                              have n0_ := Aside0.mk (Kd.V_drew HO_1162004.out)
                              have n1_ := Aside0.mk (Kd.V_drew HO_1165004.out)
                              have n2_ := Aside0.mk (blk_drew BK1161.out)
                              have n3_ := Aside0.mk (blk_drew BK1162.out)
                              have n4_ := Aside0.mk (blk_drew BK1164.out)
                              have n5_ := Aside0.mk (below_drew1 HB.out)
                              clear HO_1162004
                              clear HO_1165004
                              clear BK1161
                              clear BK1162
                              clear BK1164
                              clear HB
                              have HO_1162004 := n0_
                              have HO_1165004 := n1_
                              have BK1161 := n2_
                              have BK1162 := n3_
                              have BK1164 := n4_
                              have HB := n5_
                              clear n0_ n1_ n2_ n3_ n4_ n5_
                              refine start_ (n := 22) (S := fun w' => w'.cell? ⟨gb1161, 0, none⟩ = some (.int .i64 a0_0) ∧ w'.cell? ⟨gb1161, 1, none⟩ = some (.bool a0_1) ∧ w'.cell? ⟨gb1161, 2, none⟩ = some (.int .i64 a0_2) ∧ w'.cell? ⟨gb1161, 3, none⟩ = some (.int .i64 a0_3) ∧ w'.cell? ⟨gb1161, 4, none⟩ = some (.slice A0_4 l0_4.length c0_4) ∧ w'.cell? ⟨gb1161, 5, none⟩ = some (.bool a0_5) ∧ w'.cell? ⟨gb1162, 0, none⟩ = some (.int .i64 a1_0) ∧ w'.cell? ⟨gb1162, 1, none⟩ = some (.bool a1_1) ∧ w'.cell? ⟨gb1162, 2, none⟩ = some (.int .i64 a1_2) ∧ w'.cell? ⟨gb1162, 3, none⟩ = some (.int .i64 a1_3) ∧ w'.cell? ⟨gb1162, 4, none⟩ = some (.slice A1_4 l1_4.length c1_4) ∧ w'.cell? ⟨gb1162, 5, none⟩ = some (.bool a1_5) ∧ w'.cell? ⟨gb1164, 0, none⟩ = some (.int .i64 a0_0) ∧ w'.cell? ⟨gb1164, 1, none⟩ = some (.bool x1165001_16) ∧ w'.cell? ⟨gb1164, 2, none⟩ = some (.int .i64 x1165002_30) ∧ w'.cell? ⟨gb1164, 3, none⟩ = some (.int .i64 x1165003_35) ∧ w'.cell? ⟨gb1164, 4, none⟩ = some (u1165004) ∧ w'.cell? ⟨gb1164, 5, none⟩ = some (.bool (!a0_5))) (ds := []) #[false, false, false, false, false, false, false, false, false, false, false, false, false, false, false, false, false, false, false, false, false, false] (by kernel_rfl) rfl rfl ⟨(blk_cell BK1161.out 0).trans rfl, (blk_cell BK1161.out 1).trans rfl, (blk_cell BK1161.out 2).trans rfl, (blk_cell BK1161.out 3).trans rfl, (blk_cell BK1161.out 4).trans rfl, (blk_cell BK1161.out 5).trans rfl, (blk_cell BK1162.out 0).trans rfl, (blk_cell BK1162.out 1).trans rfl, (blk_cell BK1162.out 2).trans rfl, (blk_cell BK1162.out 3).trans rfl, (blk_cell BK1162.out 4).trans rfl, (blk_cell BK1162.out 5).trans rfl, (blk_cell BK1164.out 0).trans rfl, (blk_cell BK1164.out 1).trans rfl, (blk_cell BK1164.out 2).trans rfl, (blk_cell BK1164.out 3).trans rfl, (blk_cell BK1164.out 4).trans rfl, (blk_cell BK1164.out 5).trans rfl⟩ (fun hHeld => ?_); refine with_tabW boscagelaw18_ModelSame.tab15 boscagelaw18_ModelSame.bits15 (fun HT_ HW_ => ?_)
                              generalize wc.drew = w61 at HO_1162004 HO_1165004 BK1161 BK1162 BK1164 HB hHeld ⊢
                              refine take_ (i := 0) (N := some 57) (v := ?_) (a' := ?_) #[true, false, false, false, false, false, false, false, false, false, false, false, false, false, false, false, false, false, false, false, false, false] rfl rfl (take_ofW HT_.out HW_.out (by kernel_rfl)) (fun _ _ _ h => h) (Or.inl ⟨by rfl, ?_⟩) hHeld ?_ ?_
                              rotate_left
                              · rintro w' ⟨s0, s1, s2, s3, s4, s5, s6, s7, s8, s9, s10, s11, s12, s13, s14, s15, s16, s17⟩
                                go_simp
                                with_reducible rfl
                              rotate_left
                              · simp only [Act.put, List.setIfInBounds_toArray, List.set_cons_zero, List.set_cons_succ, i64_w, i32_w]
                                rfl
                              refine take_ (i := 1) (N := some 58) (v := ?_) (a' := ?_) #[true, true, false, false, false, false, false, false, false, false, false, false, false, false, false, false, false, false, false, false, false, false] rfl rfl (take_ofW HT_.out HW_.out (by kernel_rfl)) (fun _ _ _ h => h) (Or.inl ⟨by rfl, ?_⟩) hHeld ?_ ?_
                              rotate_left
                              · rintro w' ⟨s0, s1, s2, s3, s4, s5, s6, s7, s8, s9, s10, s11, s12, s13, s14, s15, s16, s17⟩
                                go_simp
                                with_reducible rfl
                              rotate_left
                              · simp only [Act.put, List.setIfInBounds_toArray, List.set_cons_zero, List.set_cons_succ, i64_w, i32_w]
                                rfl
                              refine take_ (i := 3) (N := some 60) (v := ?_) (a' := ?_) #[true, true, false, true, false, false, false, false, false, false, false, false, false, false, false, false, false, false, false, false, false, false] rfl rfl (take_ofW HT_.out HW_.out (by kernel_rfl)) (fun _ _ _ h => h) (Or.inl ⟨by rfl, ?_⟩) hHeld ?_ ?_
                              rotate_left
                              · rintro w' ⟨s0, s1, s2, s3, s4, s5, s6, s7, s8, s9, s10, s11, s12, s13, s14, s15, s16, s17⟩
                                go_simp
                                with_reducible rfl
                              rotate_left
                              · simp only [Act.put, List.setIfInBounds_toArray, List.set_cons_zero, List.set_cons_succ, i64_w, i32_w]
                                rfl
                              refine take_ (i := 4) (N := some 61) (v := ?_) (a' := ?_) #[true, true, false, true, true, false, false, false, false, false, false, false, false, false, false, false, false, false, false, false, false, false] rfl rfl (take_ofW HT_.out HW_.out (by kernel_rfl)) (fun _ _ _ h => h) (Or.inl ⟨by rfl, ?_⟩) hHeld ?_ ?_
                              rotate_left
                              · rintro w' ⟨s0, s1, s2, s3, s4, s5, s6, s7, s8, s9, s10, s11, s12, s13, s14, s15, s16, s17⟩
                                go_simp
                                with_reducible rfl
                              rotate_left
                              · simp only [Act.put, List.setIfInBounds_toArray, List.set_cons_zero, List.set_cons_succ, i64_w, i32_w]
                                rfl
                              refine one_ (i := 2) (N := some 59) #[true, true, true, true, true, false, false, false, false, false, false, false, false, false, false, false, false, false, false, false, false, false] rfl rfl (one_of HT_.out (by kernel_rfl)) (by decide) (fun K hK => ?_)
                              refine goes_ Try.func81 (by kernel_rfl) rfl #[.agg #[.int .i64 a0_0, .bool a0_1, .int .i64 a0_2, .int .i64 a0_3, .slice A0_4 l0_4.length c0_4, .bool a0_5], .agg #[.int .i64 a1_0, .bool a1_1, .int .i64 a1_2, .int .i64 a1_3, .slice A1_4 l1_4.length c1_4, .bool a1_5]] (by rfl) rfl rfl (by (try simp only [List.map_toArray, List.map_cons, List.map_nil]); first | done | rfl | (simp only [List.length_drop, List.length_take]; rfl)) ?_
                              with_reducible refine (model_Same.calls kj40 a0_0 a0_1 a0_2 a0_3 _ _ l0_4 a0_5 a1_0 a1_1 a1_2 a1_3 _ _ l1_4 a1_5 t1174 _ ?side1 ?side2 ?side3 ?side4 A55.out).mono ?_
                              (case side1 => repeat (first | exact (Kd.V_reads' HO_1162004.out).2.2 | (with_reducible refine Kd.C_alloc ?_ _) | (with_reducible refine Kd.C_drewN ?_ _) | (with_reducible refine Kd.C_drew ?_)))
                              (case side2 => exact (Kd.V_reads' HO_1162004.out).2.1)
                              (case side3 => repeat (first | exact (Kd.C_below HR1_4.out HB.out) | (with_reducible refine Kd.C_alloc ?_ _) | (with_reducible refine Kd.C_drewN ?_ _) | (with_reducible refine Kd.C_drew ?_)))
                              (case side4 => exact HC1_4.out)
                              rintro e w62 ⟨rfl, hb⟩
                              refine ⟨_, rfl, ?_⟩
                              have n0_ := Aside0.mk (Kd.V_below (by (with_reducible repeat (first | apply Kd.V_alloc | apply Kd.V_drewN | apply Kd.V_drew)); exact HO_1162004.out) hb)
                              have n1_ := Aside0.mk (Kd.V_below (by (with_reducible repeat (first | apply Kd.V_alloc | apply Kd.V_drewN | apply Kd.V_drew)); exact HO_1165004.out) hb)
                              have n2_ := Aside0.mk (blk_below (g := gb1161) (o := .cells #[.int .i64 a0_0, .bool a0_1, .int .i64 a0_2, .int .i64 a0_3, .slice A0_4 l0_4.length c0_4, .bool a0_5] 84 (0, 0)) (by (with_reducible repeat (first | refine blk_drewN ?_ _ | refine blk_drew ?_ | refine blk_alloc ?_ _)); exact BK1161.out) hb)
                              have n3_ := Aside0.mk (blk_below (g := gb1162) (o := .cells #[.int .i64 a1_0, .bool a1_1, .int .i64 a1_2, .int .i64 a1_3, .slice A1_4 l1_4.length c1_4, .bool a1_5] 84 (0, 0)) (by (with_reducible repeat (first | refine blk_drewN ?_ _ | refine blk_drew ?_ | refine blk_alloc ?_ _)); exact BK1162.out) hb)
                              have n4_ := Aside0.mk (blk_below (g := gb1164) (o := .cells #[.int .i64 a0_0, .bool x1165001_16, .int .i64 x1165002_30, .int .i64 x1165003_35, u1165004, .bool (!a0_5)] 84 (0, 0)) (by (with_reducible repeat (first | refine blk_drewN ?_ _ | refine blk_drew ?_ | refine blk_alloc ?_ _)); exact BK1164.out) hb)
                              have n5_ := Aside0.mk (below_step (by repeat (first | (with_reducible first | exact HB.out | apply below_alloc | apply pw_below_drewN | apply below_drew1 | refine below_set ?_ GE1161.out | refine below_set ?_ GE1162.out | refine below_set ?_ GE1164.out) | exact HB.out)) hb)
                              clear HO_1162004
                              clear HO_1165004
                              clear BK1161
                              clear BK1162
                              clear BK1164
                              clear HB
                              have HO_1162004 := n0_
                              have HO_1165004 := n1_
                              have BK1161 := n2_
                              have BK1162 := n3_
                              have BK1164 := n4_
                              have HB := n5_
                              clear n0_ n1_ n2_ n3_ n4_ n5_
                              (try clear hb)
                              (try clear hb2)
                              (try clear hk)
                              (try clear hi)
                              refine hK.out _ _ ⟨(blk_cell BK1161.out 0).trans rfl, (blk_cell BK1161.out 1).trans rfl, (blk_cell BK1161.out 2).trans rfl, (blk_cell BK1161.out 3).trans rfl, (blk_cell BK1161.out 4).trans rfl, (blk_cell BK1161.out 5).trans rfl, (blk_cell BK1162.out 0).trans rfl, (blk_cell BK1162.out 1).trans rfl, (blk_cell BK1162.out 2).trans rfl, (blk_cell BK1162.out 3).trans rfl, (blk_cell BK1162.out 4).trans rfl, (blk_cell BK1162.out 5).trans rfl, (blk_cell BK1164.out 0).trans rfl, (blk_cell BK1164.out 1).trans rfl, (blk_cell BK1164.out 2).trans rfl, (blk_cell BK1164.out 3).trans rfl, (blk_cell BK1164.out 4).trans rfl, (blk_cell BK1164.out 5).trans rfl⟩ (fun hHeld => ?_)
                              clear hK K
                              refine norm_ (a' := ?_) ?_ ?_
                              rotate_left
                              · show Act.put _ (some 59) _ = _
                                simp only [Act.put, List.setIfInBounds_toArray, List.set_cons_zero, List.set_cons_succ, i64_w, i32_w]
                                rfl
                              refine one_ (i := 5) (N := some 62) #[true, true, true, true, true, true, false, false, false, false, false, false, false, false, false, false, false, false, false, false, false, false] rfl rfl (one_of HT_.out (by kernel_rfl)) (by decide) (fun K hK => ?_)
                              refine goes_ Try.func73 (by kernel_rfl) rfl #[.agg #[.int .i64 a0_0, .bool a0_1, .int .i64 a0_2, .int .i64 a0_3, .slice A0_4 l0_4.length c0_4, .bool a0_5], .agg #[.int .i64 a1_0, .bool a1_1, .int .i64 a1_2, .int .i64 a1_3, .slice A1_4 l1_4.length c1_4, .bool a1_5]] (by rfl) rfl rfl (by (try simp only [List.map_toArray, List.map_cons, List.map_nil]); first | done | rfl | (simp only [List.length_drop, List.length_take]; rfl)) ?_
                              with_reducible refine (boscagelaw18_Same.calls kj40 a0_0 a0_1 a0_2 a0_3 _ _ l0_4 a0_5 a1_0 a1_1 a1_2 a1_3 _ _ l1_4 a1_5 t1175 _ ?side1 ?side2 ?side3 ?side4 A56.out).mono ?_
                              (case side1 => repeat (first | exact (Kd.V_reads' HO_1162004.out).2.2 | (with_reducible refine Kd.C_alloc ?_ _) | (with_reducible refine Kd.C_drewN ?_ _) | (with_reducible refine Kd.C_drew ?_)))
                              (case side2 => exact (Kd.V_reads' HO_1162004.out).2.1)
                              (case side3 => repeat (first | exact (Kd.C_below HR1_4.out HB.out) | (with_reducible refine Kd.C_alloc ?_ _) | (with_reducible refine Kd.C_drewN ?_ _) | (with_reducible refine Kd.C_drew ?_)))
                              (case side4 => exact HC1_4.out)
                              rintro e w63 ⟨rfl, hb⟩
                              refine ⟨_, rfl, ?_⟩
                              have n0_ := Aside0.mk (Kd.V_below (by (with_reducible repeat (first | apply Kd.V_alloc | apply Kd.V_drewN | apply Kd.V_drew)); exact HO_1162004.out) hb)
                              have n1_ := Aside0.mk (Kd.V_below (by (with_reducible repeat (first | apply Kd.V_alloc | apply Kd.V_drewN | apply Kd.V_drew)); exact HO_1165004.out) hb)
                              have n2_ := Aside0.mk (blk_below (g := gb1161) (o := .cells #[.int .i64 a0_0, .bool a0_1, .int .i64 a0_2, .int .i64 a0_3, .slice A0_4 l0_4.length c0_4, .bool a0_5] 84 (0, 0)) (by (with_reducible repeat (first | refine blk_drewN ?_ _ | refine blk_drew ?_ | refine blk_alloc ?_ _)); exact BK1161.out) hb)
                              have n3_ := Aside0.mk (blk_below (g := gb1162) (o := .cells #[.int .i64 a1_0, .bool a1_1, .int .i64 a1_2, .int .i64 a1_3, .slice A1_4 l1_4.length c1_4, .bool a1_5] 84 (0, 0)) (by (with_reducible repeat (first | refine blk_drewN ?_ _ | refine blk_drew ?_ | refine blk_alloc ?_ _)); exact BK1162.out) hb)
                              have n4_ := Aside0.mk (blk_below (g := gb1164) (o := .cells #[.int .i64 a0_0, .bool x1165001_16, .int .i64 x1165002_30, .int .i64 x1165003_35, u1165004, .bool (!a0_5)] 84 (0, 0)) (by (with_reducible repeat (first | refine blk_drewN ?_ _ | refine blk_drew ?_ | refine blk_alloc ?_ _)); exact BK1164.out) hb)
                              have n5_ := Aside0.mk (below_step (by repeat (first | (with_reducible first | exact HB.out | apply below_alloc | apply pw_below_drewN | apply below_drew1 | refine below_set ?_ GE1161.out | refine below_set ?_ GE1162.out | refine below_set ?_ GE1164.out) | exact HB.out)) hb)
                              clear HO_1162004
                              clear HO_1165004
                              clear BK1161
                              clear BK1162
                              clear BK1164
                              clear HB
                              have HO_1162004 := n0_
                              have HO_1165004 := n1_
                              have BK1161 := n2_
                              have BK1162 := n3_
                              have BK1164 := n4_
                              have HB := n5_
                              clear n0_ n1_ n2_ n3_ n4_ n5_
                              (try clear hb)
                              (try clear hb2)
                              (try clear hk)
                              (try clear hi)
                              refine hK.out _ _ ⟨(blk_cell BK1161.out 0).trans rfl, (blk_cell BK1161.out 1).trans rfl, (blk_cell BK1161.out 2).trans rfl, (blk_cell BK1161.out 3).trans rfl, (blk_cell BK1161.out 4).trans rfl, (blk_cell BK1161.out 5).trans rfl, (blk_cell BK1162.out 0).trans rfl, (blk_cell BK1162.out 1).trans rfl, (blk_cell BK1162.out 2).trans rfl, (blk_cell BK1162.out 3).trans rfl, (blk_cell BK1162.out 4).trans rfl, (blk_cell BK1162.out 5).trans rfl, (blk_cell BK1164.out 0).trans rfl, (blk_cell BK1164.out 1).trans rfl, (blk_cell BK1164.out 2).trans rfl, (blk_cell BK1164.out 3).trans rfl, (blk_cell BK1164.out 4).trans rfl, (blk_cell BK1164.out 5).trans rfl⟩ (fun hHeld => ?_)
                              clear hK K
                              refine norm_ (a' := ?_) ?_ ?_
                              rotate_left
                              · show Act.put _ (some 62) _ = _
                                simp only [Act.put, List.setIfInBounds_toArray, List.set_cons_zero, List.set_cons_succ, i64_w, i32_w]
                                rfl
                              refine pure_ (i := 6) (N := some 63) (v := ?_) (a' := ?_) #[true, true, true, true, true, true, true, false, false, false, false, false, false, false, false, false, false, false, false, false, false, false] rfl rfl (any_of HT_.out (by kernel_rfl)) (fun _ _ _ h => h) (Or.inl ⟨by rfl, ?_⟩) ?_ ?_
                              rotate_left
                              · intro w'
                                go_simp
                                with_reducible rfl
                              rotate_left
                              · simp only [Act.put, List.setIfInBounds_toArray, List.set_cons_zero, List.set_cons_succ, i64_w, i32_w]
                                rfl
                              refine pure_ (i := 7) (N := some 64) (v := ?_) (a' := ?_) #[true, true, true, true, true, true, true, true, false, false, false, false, false, false, false, false, false, false, false, false, false, false] rfl rfl (any_of HT_.out (by kernel_rfl)) (fun _ _ _ h => h) (Or.inl ⟨by rfl, ?_⟩) ?_ ?_
                              rotate_left
                              · intro w'
                                go_simp
                                with_reducible rfl
                              rotate_left
                              · simp only [Act.put, List.setIfInBounds_toArray, List.set_cons_zero, List.set_cons_succ, i64_w, i32_w]
                                rfl
                              refine take_ (i := 8) (N := some 65) (v := ?_) (a' := ?_) #[true, true, true, true, true, true, true, true, true, false, false, false, false, false, false, false, false, false, false, false, false, false] rfl rfl (take_ofW HT_.out HW_.out (by kernel_rfl)) (fun _ _ _ h => h) (Or.inl ⟨by rfl, ?_⟩) hHeld ?_ ?_
                              rotate_left
                              · rintro w' ⟨s0, s1, s2, s3, s4, s5, s6, s7, s8, s9, s10, s11, s12, s13, s14, s15, s16, s17⟩
                                go_simp
                                with_reducible rfl
                              rotate_left
                              · simp only [Act.put, List.setIfInBounds_toArray, List.set_cons_zero, List.set_cons_succ, i64_w, i32_w]
                                rfl
                              refine take_ (i := 9) (N := some 66) (v := ?_) (a' := ?_) #[true, true, true, true, true, true, true, true, true, true, false, false, false, false, false, false, false, false, false, false, false, false] rfl rfl (take_ofW HT_.out HW_.out (by kernel_rfl)) (fun _ _ _ h => h) (Or.inl ⟨by rfl, ?_⟩) hHeld ?_ ?_
                              rotate_left
                              · rintro w' ⟨s0, s1, s2, s3, s4, s5, s6, s7, s8, s9, s10, s11, s12, s13, s14, s15, s16, s17⟩
                                go_simp
                                with_reducible rfl
                              rotate_left
                              · simp only [Act.put, List.setIfInBounds_toArray, List.set_cons_zero, List.set_cons_succ, i64_w, i32_w]
                                rfl
                              refine one_ (i := 10) (N := some 67) #[true, true, true, true, true, true, true, true, true, true, true, false, false, false, false, false, false, false, false, false, false, false] rfl rfl (one_of HT_.out (by kernel_rfl)) (by decide) (fun K hK => ?_)
                              refine goes_ Try.func81 (by kernel_rfl) rfl #[.agg #[.int .i64 a0_0, .bool a0_1, .int .i64 a0_2, .int .i64 a0_3, .slice A0_4 l0_4.length c0_4, .bool a0_5], .agg #[.int .i64 a0_0, .bool a0_1, .int .i64 a0_2, .int .i64 a0_3, .slice A0_4 l0_4.length c0_4, .bool a0_5]] (by rfl) rfl rfl (by (try simp only [List.map_toArray, List.map_cons, List.map_nil]); first | done | rfl | (simp only [List.length_drop, List.length_take]; rfl)) ?_
                              with_reducible refine (model_Same.calls kj40 a0_0 a0_1 a0_2 a0_3 _ _ l0_4 a0_5 a0_0 a0_1 a0_2 a0_3 _ _ l0_4 a0_5 true _ ?side1 ?side2 ?side3 ?side4 A58.out).mono ?_
                              (case side1 => repeat (first | exact (Kd.V_reads' HO_1162004.out).2.2 | (with_reducible refine Kd.C_alloc ?_ _) | (with_reducible refine Kd.C_drewN ?_ _) | (with_reducible refine Kd.C_drew ?_)))
                              (case side2 => exact (Kd.V_reads' HO_1162004.out).2.1)
                              (case side3 => repeat (first | exact (Kd.V_reads' HO_1162004.out).2.2 | (with_reducible refine Kd.C_alloc ?_ _) | (with_reducible refine Kd.C_drewN ?_ _) | (with_reducible refine Kd.C_drew ?_)))
                              (case side4 => exact (Kd.V_reads' HO_1162004.out).2.1)
                              rintro e w64 ⟨rfl, hb⟩
                              refine ⟨_, rfl, ?_⟩
                              have n0_ := Aside0.mk (Kd.V_below (by (with_reducible repeat (first | apply Kd.V_alloc | apply Kd.V_drewN | apply Kd.V_drew)); exact HO_1162004.out) hb)
                              have n1_ := Aside0.mk (Kd.V_below (by (with_reducible repeat (first | apply Kd.V_alloc | apply Kd.V_drewN | apply Kd.V_drew)); exact HO_1165004.out) hb)
                              have n2_ := Aside0.mk (blk_below (g := gb1161) (o := .cells #[.int .i64 a0_0, .bool a0_1, .int .i64 a0_2, .int .i64 a0_3, .slice A0_4 l0_4.length c0_4, .bool a0_5] 84 (0, 0)) (by (with_reducible repeat (first | refine blk_drewN ?_ _ | refine blk_drew ?_ | refine blk_alloc ?_ _)); exact BK1161.out) hb)
                              have n3_ := Aside0.mk (blk_below (g := gb1162) (o := .cells #[.int .i64 a1_0, .bool a1_1, .int .i64 a1_2, .int .i64 a1_3, .slice A1_4 l1_4.length c1_4, .bool a1_5] 84 (0, 0)) (by (with_reducible repeat (first | refine blk_drewN ?_ _ | refine blk_drew ?_ | refine blk_alloc ?_ _)); exact BK1162.out) hb)
                              have n4_ := Aside0.mk (blk_below (g := gb1164) (o := .cells #[.int .i64 a0_0, .bool x1165001_16, .int .i64 x1165002_30, .int .i64 x1165003_35, u1165004, .bool (!a0_5)] 84 (0, 0)) (by (with_reducible repeat (first | refine blk_drewN ?_ _ | refine blk_drew ?_ | refine blk_alloc ?_ _)); exact BK1164.out) hb)
                              have n5_ := Aside0.mk (below_step (by repeat (first | (with_reducible first | exact HB.out | apply below_alloc | apply pw_below_drewN | apply below_drew1 | refine below_set ?_ GE1161.out | refine below_set ?_ GE1162.out | refine below_set ?_ GE1164.out) | exact HB.out)) hb)
                              clear HO_1162004
                              clear HO_1165004
                              clear BK1161
                              clear BK1162
                              clear BK1164
                              clear HB
                              have HO_1162004 := n0_
                              have HO_1165004 := n1_
                              have BK1161 := n2_
                              have BK1162 := n3_
                              have BK1164 := n4_
                              have HB := n5_
                              clear n0_ n1_ n2_ n3_ n4_ n5_
                              (try clear hb)
                              (try clear hb2)
                              (try clear hk)
                              (try clear hi)
                              obtain ⟨Ao65, co65, eo65⟩ := Kd.V_slice HO_1165004.out
                              (first | subst eo65 | (injection eo65 with f1_ f2_ f3_; have f4_ := f1_.symm; have f5_ := f3_.symm; clear f1_ f2_ f3_; subst f4_; subst f5_))
                              refine hK.out _ _ ⟨(blk_cell BK1161.out 0).trans rfl, (blk_cell BK1161.out 1).trans rfl, (blk_cell BK1161.out 2).trans rfl, (blk_cell BK1161.out 3).trans rfl, (blk_cell BK1161.out 4).trans rfl, (blk_cell BK1161.out 5).trans rfl, (blk_cell BK1162.out 0).trans rfl, (blk_cell BK1162.out 1).trans rfl, (blk_cell BK1162.out 2).trans rfl, (blk_cell BK1162.out 3).trans rfl, (blk_cell BK1162.out 4).trans rfl, (blk_cell BK1162.out 5).trans rfl, (blk_cell BK1164.out 0).trans rfl, (blk_cell BK1164.out 1).trans rfl, (blk_cell BK1164.out 2).trans rfl, (blk_cell BK1164.out 3).trans rfl, (blk_cell BK1164.out 4).trans rfl, (blk_cell BK1164.out 5).trans rfl⟩ (fun hHeld => ?_)
                              clear hK K
                              refine norm_ (a' := ?_) ?_ ?_
                              rotate_left
                              · show Act.put _ (some 67) _ = _
                                simp only [Act.put, List.setIfInBounds_toArray, List.set_cons_zero, List.set_cons_succ, i64_w, i32_w]
                                rfl
                              refine pure_ (i := 11) (N := some 68) (v := ?_) (a' := ?_) #[true, true, true, true, true, true, true, true, true, true, true, true, false, false, false, false, false, false, false, false, false, false] rfl rfl (any_of HT_.out (by kernel_rfl)) (fun _ _ _ h => h) (Or.inl ⟨by rfl, ?_⟩) ?_ ?_
                              rotate_left
                              · intro w'
                                go_simp
                                with_reducible rfl
                              rotate_left
                              · simp only [Act.put, List.setIfInBounds_toArray, List.set_cons_zero, List.set_cons_succ, i64_w, i32_w]
                                rfl
                              refine pure_ (i := 12) (N := some 69) (v := ?_) (a' := ?_) #[true, true, true, true, true, true, true, true, true, true, true, true, true, false, false, false, false, false, false, false, false, false] rfl rfl (any_of HT_.out (by kernel_rfl)) (fun _ _ _ h => h) (Or.inl ⟨by rfl, ?_⟩) ?_ ?_
                              rotate_left
                              · intro w'
                                go_simp
                                with_reducible rfl
                              rotate_left
                              · simp only [Act.put, List.setIfInBounds_toArray, List.set_cons_zero, List.set_cons_succ, i64_w, i32_w]
                                rfl
                              refine pure_ (i := 16) (N := some 73) (v := ?_) (a' := ?_) #[true, true, true, true, true, true, true, true, true, true, true, true, true, false, false, false, true, false, false, false, false, false] rfl rfl (any_of HT_.out (by kernel_rfl)) (fun _ _ _ h => h) (Or.inl ⟨by rfl, ?_⟩) ?_ ?_
                              rotate_left
                              · intro w'
                                go_simp
                                with_reducible rfl
                              rotate_left
                              · simp only [Act.put, List.setIfInBounds_toArray, List.set_cons_zero, List.set_cons_succ, i64_w, i32_w]
                                rfl
                              refine pure_ (i := 17) (N := some 74) (v := ?_) (a' := ?_) #[true, true, true, true, true, true, true, true, true, true, true, true, true, false, false, false, true, true, false, false, false, false] rfl rfl (any_of HT_.out (by kernel_rfl)) (fun _ _ _ h => h) (Or.inl ⟨by rfl, ?_⟩) ?_ ?_
                              rotate_left
                              · intro w'
                                go_simp
                                with_reducible rfl
                              rotate_left
                              · simp only [Act.put, List.setIfInBounds_toArray, List.set_cons_zero, List.set_cons_succ, i64_w, i32_w]
                                rfl
                              refine pure_ (i := 18) (N := some 75) (v := ?_) (a' := ?_) #[true, true, true, true, true, true, true, true, true, true, true, true, true, false, false, false, true, true, true, false, false, false] rfl rfl (any_of HT_.out (by kernel_rfl)) (fun _ _ _ h => h) (Or.inl ⟨by rfl, ?_⟩) ?_ ?_
                              rotate_left
                              · intro w'
                                go_simp
                                with_reducible rfl
                              rotate_left
                              · simp only [Act.put, List.setIfInBounds_toArray, List.set_cons_zero, List.set_cons_succ, i64_w, i32_w]
                                rfl
                              refine take_ (i := 13) (N := some 70) (v := ?_) (a' := ?_) #[true, true, true, true, true, true, true, true, true, true, true, true, true, true, false, false, true, true, true, false, false, false] rfl rfl (take_ofW HT_.out HW_.out (by kernel_rfl)) (fun _ _ _ h => h) (Or.inl ⟨by rfl, ?_⟩) hHeld ?_ ?_
                              rotate_left
                              · rintro w' ⟨s0, s1, s2, s3, s4, s5, s6, s7, s8, s9, s10, s11, s12, s13, s14, s15, s16, s17⟩
                                go_simp
                                with_reducible rfl
                              rotate_left
                              · simp only [Act.put, List.setIfInBounds_toArray, List.set_cons_zero, List.set_cons_succ, i64_w, i32_w]
                                rfl
                              refine take_ (i := 14) (N := some 71) (v := ?_) (a' := ?_) #[true, true, true, true, true, true, true, true, true, true, true, true, true, true, true, false, true, true, true, false, false, false] rfl rfl (take_ofW HT_.out HW_.out (by kernel_rfl)) (fun _ _ _ h => h) (Or.inl ⟨by rfl, ?_⟩) hHeld ?_ ?_
                              rotate_left
                              · rintro w' ⟨s0, s1, s2, s3, s4, s5, s6, s7, s8, s9, s10, s11, s12, s13, s14, s15, s16, s17⟩
                                go_simp
                                with_reducible rfl
                              rotate_left
                              · simp only [Act.put, List.setIfInBounds_toArray, List.set_cons_zero, List.set_cons_succ, i64_w, i32_w]
                                rfl
                              refine one_ (i := 15) (N := some 72) #[true, true, true, true, true, true, true, true, true, true, true, true, true, true, true, true, true, true, true, false, false, false] rfl rfl (one_of HT_.out (by kernel_rfl)) (by decide) (fun K hK => ?_)
                              refine goes_ Try.func81 (by kernel_rfl) rfl #[.agg #[.int .i64 a0_0, .bool a0_1, .int .i64 a0_2, .int .i64 a0_3, .slice A0_4 l0_4.length c0_4, .bool a0_5], .agg #[.int .i64 a0_0, .bool x1165001_16, .int .i64 x1165002_30, .int .i64 x1165003_35, .slice Ao65 x1165004_40.length co65, .bool (!a0_5)]] (by rfl) rfl rfl (by (try simp only [List.map_toArray, List.map_cons, List.map_nil]); first | done | rfl | (simp only [List.length_drop, List.length_take]; rfl)) ?_
                              with_reducible refine (model_Same.calls kj40 a0_0 a0_1 a0_2 a0_3 _ _ l0_4 a0_5 a0_0 x1165001_16 x1165002_30 x1165003_35 _ _ x1165004_40 (!a0_5) t1177 _ ?side1 ?side2 ?side3 ?side4 A60.out).mono ?_
                              (case side1 => repeat (first | exact (Kd.V_reads' HO_1162004.out).2.2 | (with_reducible refine Kd.C_alloc ?_ _) | (with_reducible refine Kd.C_drewN ?_ _) | (with_reducible refine Kd.C_drew ?_)))
                              (case side2 => exact (Kd.V_reads' HO_1162004.out).2.1)
                              (case side3 => repeat (first | exact (Kd.V_reads' HO_1165004.out).2.2 | (with_reducible refine Kd.C_alloc ?_ _) | (with_reducible refine Kd.C_drewN ?_ _) | (with_reducible refine Kd.C_drew ?_)))
                              (case side4 => exact (Kd.V_reads' HO_1165004.out).2.1)
                              rintro e w66 ⟨rfl, hb⟩
                              refine ⟨_, rfl, ?_⟩
                              have n0_ := Aside0.mk (Kd.V_below (by (with_reducible repeat (first | apply Kd.V_alloc | apply Kd.V_drewN | apply Kd.V_drew)); exact HO_1162004.out) hb)
                              have n1_ := Aside0.mk (Kd.V_below (by (with_reducible repeat (first | apply Kd.V_alloc | apply Kd.V_drewN | apply Kd.V_drew)); exact HO_1165004.out) hb)
                              have n2_ := Aside0.mk (blk_below (g := gb1161) (o := .cells #[.int .i64 a0_0, .bool a0_1, .int .i64 a0_2, .int .i64 a0_3, .slice A0_4 l0_4.length c0_4, .bool a0_5] 84 (0, 0)) (by (with_reducible repeat (first | refine blk_drewN ?_ _ | refine blk_drew ?_ | refine blk_alloc ?_ _)); exact BK1161.out) hb)
                              have n3_ := Aside0.mk (blk_below (g := gb1162) (o := .cells #[.int .i64 a1_0, .bool a1_1, .int .i64 a1_2, .int .i64 a1_3, .slice A1_4 l1_4.length c1_4, .bool a1_5] 84 (0, 0)) (by (with_reducible repeat (first | refine blk_drewN ?_ _ | refine blk_drew ?_ | refine blk_alloc ?_ _)); exact BK1162.out) hb)
                              have n4_ := Aside0.mk (blk_below (g := gb1164) (o := .cells #[.int .i64 a0_0, .bool x1165001_16, .int .i64 x1165002_30, .int .i64 x1165003_35, .slice Ao65 x1165004_40.length co65, .bool (!a0_5)] 84 (0, 0)) (by (with_reducible repeat (first | refine blk_drewN ?_ _ | refine blk_drew ?_ | refine blk_alloc ?_ _)); exact BK1164.out) hb)
                              have n5_ := Aside0.mk (below_step (by repeat (first | (with_reducible first | exact HB.out | apply below_alloc | apply pw_below_drewN | apply below_drew1 | refine below_set ?_ GE1161.out | refine below_set ?_ GE1162.out | refine below_set ?_ GE1164.out) | exact HB.out)) hb)
                              clear HO_1162004
                              clear HO_1165004
                              clear BK1161
                              clear BK1162
                              clear BK1164
                              clear HB
                              have HO_1162004 := n0_
                              have HO_1165004 := n1_
                              have BK1161 := n2_
                              have BK1162 := n3_
                              have BK1164 := n4_
                              have HB := n5_
                              clear n0_ n1_ n2_ n3_ n4_ n5_
                              (try clear hb)
                              (try clear hb2)
                              (try clear hk)
                              (try clear hi)
                              refine hK.out _ _ ⟨(blk_cell BK1161.out 0).trans rfl, (blk_cell BK1161.out 1).trans rfl, (blk_cell BK1161.out 2).trans rfl, (blk_cell BK1161.out 3).trans rfl, (blk_cell BK1161.out 4).trans rfl, (blk_cell BK1161.out 5).trans rfl, (blk_cell BK1162.out 0).trans rfl, (blk_cell BK1162.out 1).trans rfl, (blk_cell BK1162.out 2).trans rfl, (blk_cell BK1162.out 3).trans rfl, (blk_cell BK1162.out 4).trans rfl, (blk_cell BK1162.out 5).trans rfl, (blk_cell BK1164.out 0).trans rfl, (blk_cell BK1164.out 1).trans rfl, (blk_cell BK1164.out 2).trans rfl, (blk_cell BK1164.out 3).trans rfl, (blk_cell BK1164.out 4).trans rfl, (blk_cell BK1164.out 5).trans rfl⟩ (fun hHeld => ?_)
                              clear hK K
                              refine norm_ (a' := ?_) ?_ ?_
                              rotate_left
                              · show Act.put _ (some 72) _ = _
                                simp only [Act.put, List.setIfInBounds_toArray, List.set_cons_zero, List.set_cons_succ, i64_w, i32_w]
                                rfl
                              refine pure_ (i := 19) (N := some 76) (v := ?_) (a' := ?_) #[true, true, true, true, true, true, true, true, true, true, true, true, true, true, true, true, true, true, true, true, false, false] rfl rfl (any_of HT_.out (by kernel_rfl)) (fun _ _ _ h => h) (Or.inl ⟨by rfl, ?_⟩) ?_ ?_
                              rotate_left
                              · intro w'
                                go_simp
                                with_reducible rfl
                              rotate_left
                              · simp only [Act.put, List.setIfInBounds_toArray, List.set_cons_zero, List.set_cons_succ, i64_w, i32_w]
                                rfl
                              refine pure_ (i := 20) (N := some 77) (v := ?_) (a' := ?_) #[true, true, true, true, true, true, true, true, true, true, true, true, true, true, true, true, true, true, true, true, true, false] rfl rfl (any_of HT_.out (by kernel_rfl)) (fun _ _ _ h => h) (Or.inl ⟨by rfl, ?_⟩) ?_ ?_
                              rotate_left
                              · intro w'
                                go_simp
                                with_reducible rfl
                              rotate_left
                              · simp only [Act.put, List.setIfInBounds_toArray, List.set_cons_zero, List.set_cons_succ, i64_w, i32_w]
                                rfl
                              refine pure_ (i := 21) (N := some 6) (v := ?_) (a' := ?_) #[true, true, true, true, true, true, true, true, true, true, true, true, true, true, true, true, true, true, true, true, true, true] rfl rfl (any_of HT_.out (by kernel_rfl)) (fun _ _ _ h => h) (Or.inl ⟨by rfl, ?_⟩) ?_ ?_
                              rotate_left
                              · intro w'
                                go_simp
                                with_reducible rfl
                              rotate_left
                              · simp only [Act.put, List.setIfInBounds_toArray, List.set_cons_zero, List.set_cons_succ, i64_w, i32_w]
                                rfl
                              refine done_ (done_of HT_.out (by kernel_rfl)) ?_
                              try go_wp2
                              go_ret
                              exact ⟨by first | rfl | (simp [errW_none, errW_some] <;> rfl) | (simp [*, errW_none, errW_some] <;> rfl), by repeat (first | (with_reducible first | exact HB.out | apply below_alloc | apply pw_below_drewN | apply below_drew1 | refine below_set ?_ GE1161.out | refine below_set ?_ GE1162.out | refine below_set ?_ GE1164.out) | exact HB.out)⟩
                            · replace c59 := Bool.eq_false_iff.mpr c59
                              subst c59
                              have H1 : (some false) = some r := by rw [if_neg (show ¬ (false = true) by decide)] at H; exact H
                              clear H
                              have H := H1
                              clear H1
                              obtain rfl := Option.some.inj H
                              try go_wp2
                              have n0_ := Aside0.mk (Kd.V_drew HO_1162004.out)
                              have n1_ := Aside0.mk (Kd.V_drew HO_1165004.out)
                              have n2_ := Aside0.mk (blk_drew BK1161.out)
                              have n3_ := Aside0.mk (blk_drew BK1162.out)
                              have n4_ := Aside0.mk (blk_drew BK1164.out)
                              have n5_ := Aside0.mk (below_drew1 HB.out)
                              clear HO_1162004
                              clear HO_1165004
                              clear BK1161
                              clear BK1162
                              clear BK1164
                              clear HB
                              have HO_1162004 := n0_
                              have HO_1165004 := n1_
                              have BK1161 := n2_
                              have BK1162 := n3_
                              have BK1164 := n4_
                              have HB := n5_
                              clear n0_ n1_ n2_ n3_ n4_ n5_
                              refine start_ (n := 22) (S := fun w' => w'.cell? ⟨gb1161, 0, none⟩ = some (.int .i64 a0_0) ∧ w'.cell? ⟨gb1161, 1, none⟩ = some (.bool a0_1) ∧ w'.cell? ⟨gb1161, 2, none⟩ = some (.int .i64 a0_2) ∧ w'.cell? ⟨gb1161, 3, none⟩ = some (.int .i64 a0_3) ∧ w'.cell? ⟨gb1161, 4, none⟩ = some (.slice A0_4 l0_4.length c0_4) ∧ w'.cell? ⟨gb1161, 5, none⟩ = some (.bool a0_5) ∧ w'.cell? ⟨gb1162, 0, none⟩ = some (.int .i64 a1_0) ∧ w'.cell? ⟨gb1162, 1, none⟩ = some (.bool a1_1) ∧ w'.cell? ⟨gb1162, 2, none⟩ = some (.int .i64 a1_2) ∧ w'.cell? ⟨gb1162, 3, none⟩ = some (.int .i64 a1_3) ∧ w'.cell? ⟨gb1162, 4, none⟩ = some (.slice A1_4 l1_4.length c1_4) ∧ w'.cell? ⟨gb1162, 5, none⟩ = some (.bool a1_5)) (ds := []) #[false, false, false, false, false, false, false, false, false, false, false, false, false, false, false, false, false, false, false, false, false, false] (by kernel_rfl) rfl rfl ⟨(blk_cell BK1161.out 0).trans rfl, (blk_cell BK1161.out 1).trans rfl, (blk_cell BK1161.out 2).trans rfl, (blk_cell BK1161.out 3).trans rfl, (blk_cell BK1161.out 4).trans rfl, (blk_cell BK1161.out 5).trans rfl, (blk_cell BK1162.out 0).trans rfl, (blk_cell BK1162.out 1).trans rfl, (blk_cell BK1162.out 2).trans rfl, (blk_cell BK1162.out 3).trans rfl, (blk_cell BK1162.out 4).trans rfl, (blk_cell BK1162.out 5).trans rfl⟩ (fun hHeld => ?_); refine with_tabW boscagelaw18_ModelSame.tab15 boscagelaw18_ModelSame.bits15 (fun HT_ HW_ => ?_)
                              generalize wc.drew = w67 at HO_1162004 HO_1165004 BK1161 BK1162 BK1164 HB hHeld ⊢
                              refine take_ (i := 0) (N := some 57) (v := ?_) (a' := ?_) #[true, false, false, false, false, false, false, false, false, false, false, false, false, false, false, false, false, false, false, false, false, false] rfl rfl (take_ofW HT_.out HW_.out (by kernel_rfl)) (fun _ _ _ h => h) (Or.inl ⟨by rfl, ?_⟩) hHeld ?_ ?_
                              rotate_left
                              · rintro w' ⟨s0, s1, s2, s3, s4, s5, s6, s7, s8, s9, s10, s11⟩
                                go_simp
                                with_reducible rfl
                              rotate_left
                              · simp only [Act.put, List.setIfInBounds_toArray, List.set_cons_zero, List.set_cons_succ, i64_w, i32_w]
                                rfl
                              refine take_ (i := 1) (N := some 58) (v := ?_) (a' := ?_) #[true, true, false, false, false, false, false, false, false, false, false, false, false, false, false, false, false, false, false, false, false, false] rfl rfl (take_ofW HT_.out HW_.out (by kernel_rfl)) (fun _ _ _ h => h) (Or.inl ⟨by rfl, ?_⟩) hHeld ?_ ?_
                              rotate_left
                              · rintro w' ⟨s0, s1, s2, s3, s4, s5, s6, s7, s8, s9, s10, s11⟩
                                go_simp
                                with_reducible rfl
                              rotate_left
                              · simp only [Act.put, List.setIfInBounds_toArray, List.set_cons_zero, List.set_cons_succ, i64_w, i32_w]
                                rfl
                              refine take_ (i := 3) (N := some 60) (v := ?_) (a' := ?_) #[true, true, false, true, false, false, false, false, false, false, false, false, false, false, false, false, false, false, false, false, false, false] rfl rfl (take_ofW HT_.out HW_.out (by kernel_rfl)) (fun _ _ _ h => h) (Or.inl ⟨by rfl, ?_⟩) hHeld ?_ ?_
                              rotate_left
                              · rintro w' ⟨s0, s1, s2, s3, s4, s5, s6, s7, s8, s9, s10, s11⟩
                                go_simp
                                with_reducible rfl
                              rotate_left
                              · simp only [Act.put, List.setIfInBounds_toArray, List.set_cons_zero, List.set_cons_succ, i64_w, i32_w]
                                rfl
                              refine take_ (i := 4) (N := some 61) (v := ?_) (a' := ?_) #[true, true, false, true, true, false, false, false, false, false, false, false, false, false, false, false, false, false, false, false, false, false] rfl rfl (take_ofW HT_.out HW_.out (by kernel_rfl)) (fun _ _ _ h => h) (Or.inl ⟨by rfl, ?_⟩) hHeld ?_ ?_
                              rotate_left
                              · rintro w' ⟨s0, s1, s2, s3, s4, s5, s6, s7, s8, s9, s10, s11⟩
                                go_simp
                                with_reducible rfl
                              rotate_left
                              · simp only [Act.put, List.setIfInBounds_toArray, List.set_cons_zero, List.set_cons_succ, i64_w, i32_w]
                                rfl
                              refine one_ (i := 2) (N := some 59) #[true, true, true, true, true, false, false, false, false, false, false, false, false, false, false, false, false, false, false, false, false, false] rfl rfl (one_of HT_.out (by kernel_rfl)) (by decide) (fun K hK => ?_)
                              refine goes_ Try.func81 (by kernel_rfl) rfl #[.agg #[.int .i64 a0_0, .bool a0_1, .int .i64 a0_2, .int .i64 a0_3, .slice A0_4 l0_4.length c0_4, .bool a0_5], .agg #[.int .i64 a1_0, .bool a1_1, .int .i64 a1_2, .int .i64 a1_3, .slice A1_4 l1_4.length c1_4, .bool a1_5]] (by rfl) rfl rfl (by (try simp only [List.map_toArray, List.map_cons, List.map_nil]); first | done | rfl | (simp only [List.length_drop, List.length_take]; rfl)) ?_
                              with_reducible refine (model_Same.calls kj40 a0_0 a0_1 a0_2 a0_3 _ _ l0_4 a0_5 a1_0 a1_1 a1_2 a1_3 _ _ l1_4 a1_5 t1174 _ ?side1 ?side2 ?side3 ?side4 A55.out).mono ?_
                              (case side1 => repeat (first | exact (Kd.V_reads' HO_1162004.out).2.2 | (with_reducible refine Kd.C_alloc ?_ _) | (with_reducible refine Kd.C_drewN ?_ _) | (with_reducible refine Kd.C_drew ?_)))
                              (case side2 => exact (Kd.V_reads' HO_1162004.out).2.1)
                              (case side3 => repeat (first | exact (Kd.C_below HR1_4.out HB.out) | (with_reducible refine Kd.C_alloc ?_ _) | (with_reducible refine Kd.C_drewN ?_ _) | (with_reducible refine Kd.C_drew ?_)))
                              (case side4 => exact HC1_4.out)
                              rintro e w68 ⟨rfl, hb⟩
                              refine ⟨_, rfl, ?_⟩
                              have n0_ := Aside0.mk (Kd.V_below (by (with_reducible repeat (first | apply Kd.V_alloc | apply Kd.V_drewN | apply Kd.V_drew)); exact HO_1162004.out) hb)
                              have n1_ := Aside0.mk (Kd.V_below (by (with_reducible repeat (first | apply Kd.V_alloc | apply Kd.V_drewN | apply Kd.V_drew)); exact HO_1165004.out) hb)
                              have n2_ := Aside0.mk (blk_below (g := gb1161) (o := .cells #[.int .i64 a0_0, .bool a0_1, .int .i64 a0_2, .int .i64 a0_3, .slice A0_4 l0_4.length c0_4, .bool a0_5] 84 (0, 0)) (by (with_reducible repeat (first | refine blk_drewN ?_ _ | refine blk_drew ?_ | refine blk_alloc ?_ _)); exact BK1161.out) hb)
                              have n3_ := Aside0.mk (blk_below (g := gb1162) (o := .cells #[.int .i64 a1_0, .bool a1_1, .int .i64 a1_2, .int .i64 a1_3, .slice A1_4 l1_4.length c1_4, .bool a1_5] 84 (0, 0)) (by (with_reducible repeat (first | refine blk_drewN ?_ _ | refine blk_drew ?_ | refine blk_alloc ?_ _)); exact BK1162.out) hb)
                              have n4_ := Aside0.mk (blk_below (g := gb1164) (o := .cells #[.int .i64 a0_0, .bool x1165001_16, .int .i64 x1165002_30, .int .i64 x1165003_35, u1165004, .bool (!a0_5)] 84 (0, 0)) (by (with_reducible repeat (first | refine blk_drewN ?_ _ | refine blk_drew ?_ | refine blk_alloc ?_ _)); exact BK1164.out) hb)
                              have n5_ := Aside0.mk (below_step (by repeat (first | (with_reducible first | exact HB.out | apply below_alloc | apply pw_below_drewN | apply below_drew1 | refine below_set ?_ GE1161.out | refine below_set ?_ GE1162.out | refine below_set ?_ GE1164.out) | exact HB.out)) hb)
                              clear HO_1162004
                              clear HO_1165004
                              clear BK1161
                              clear BK1162
                              clear BK1164
                              clear HB
                              have HO_1162004 := n0_
                              have HO_1165004 := n1_
                              have BK1161 := n2_
                              have BK1162 := n3_
                              have BK1164 := n4_
                              have HB := n5_
                              clear n0_ n1_ n2_ n3_ n4_ n5_
                              (try clear hb)
                              (try clear hb2)
                              (try clear hk)
                              (try clear hi)
                              refine hK.out _ _ ⟨(blk_cell BK1161.out 0).trans rfl, (blk_cell BK1161.out 1).trans rfl, (blk_cell BK1161.out 2).trans rfl, (blk_cell BK1161.out 3).trans rfl, (blk_cell BK1161.out 4).trans rfl, (blk_cell BK1161.out 5).trans rfl, (blk_cell BK1162.out 0).trans rfl, (blk_cell BK1162.out 1).trans rfl, (blk_cell BK1162.out 2).trans rfl, (blk_cell BK1162.out 3).trans rfl, (blk_cell BK1162.out 4).trans rfl, (blk_cell BK1162.out 5).trans rfl⟩ (fun hHeld => ?_)
                              clear hK K
                              refine norm_ (a' := ?_) ?_ ?_
                              rotate_left
                              · show Act.put _ (some 59) _ = _
                                simp only [Act.put, List.setIfInBounds_toArray, List.set_cons_zero, List.set_cons_succ, i64_w, i32_w]
                                rfl
                              refine one_ (i := 5) (N := some 62) #[true, true, true, true, true, true, false, false, false, false, false, false, false, false, false, false, false, false, false, false, false, false] rfl rfl (one_of HT_.out (by kernel_rfl)) (by decide) (fun K hK => ?_)
                              refine goes_ Try.func73 (by kernel_rfl) rfl #[.agg #[.int .i64 a0_0, .bool a0_1, .int .i64 a0_2, .int .i64 a0_3, .slice A0_4 l0_4.length c0_4, .bool a0_5], .agg #[.int .i64 a1_0, .bool a1_1, .int .i64 a1_2, .int .i64 a1_3, .slice A1_4 l1_4.length c1_4, .bool a1_5]] (by rfl) rfl rfl (by (try simp only [List.map_toArray, List.map_cons, List.map_nil]); first | done | rfl | (simp only [List.length_drop, List.length_take]; rfl)) ?_
                              with_reducible refine (boscagelaw18_Same.calls kj40 a0_0 a0_1 a0_2 a0_3 _ _ l0_4 a0_5 a1_0 a1_1 a1_2 a1_3 _ _ l1_4 a1_5 t1175 _ ?side1 ?side2 ?side3 ?side4 A56.out).mono ?_
                              (case side1 => repeat (first | exact (Kd.V_reads' HO_1162004.out).2.2 | (with_reducible refine Kd.C_alloc ?_ _) | (with_reducible refine Kd.C_drewN ?_ _) | (with_reducible refine Kd.C_drew ?_)))
                              (case side2 => exact (Kd.V_reads' HO_1162004.out).2.1)
                              (case side3 => repeat (first | exact (Kd.C_below HR1_4.out HB.out) | (with_reducible refine Kd.C_alloc ?_ _) | (with_reducible refine Kd.C_drewN ?_ _) | (with_reducible refine Kd.C_drew ?_)))
                              (case side4 => exact HC1_4.out)
                              rintro e w69 ⟨rfl, hb⟩
                              refine ⟨_, rfl, ?_⟩
                              have n0_ := Aside0.mk (Kd.V_below (by (with_reducible repeat (first | apply Kd.V_alloc | apply Kd.V_drewN | apply Kd.V_drew)); exact HO_1162004.out) hb)
                              have n1_ := Aside0.mk (Kd.V_below (by (with_reducible repeat (first | apply Kd.V_alloc | apply Kd.V_drewN | apply Kd.V_drew)); exact HO_1165004.out) hb)
                              have n2_ := Aside0.mk (blk_below (g := gb1161) (o := .cells #[.int .i64 a0_0, .bool a0_1, .int .i64 a0_2, .int .i64 a0_3, .slice A0_4 l0_4.length c0_4, .bool a0_5] 84 (0, 0)) (by (with_reducible repeat (first | refine blk_drewN ?_ _ | refine blk_drew ?_ | refine blk_alloc ?_ _)); exact BK1161.out) hb)
                              have n3_ := Aside0.mk (blk_below (g := gb1162) (o := .cells #[.int .i64 a1_0, .bool a1_1, .int .i64 a1_2, .int .i64 a1_3, .slice A1_4 l1_4.length c1_4, .bool a1_5] 84 (0, 0)) (by (with_reducible repeat (first | refine blk_drewN ?_ _ | refine blk_drew ?_ | refine blk_alloc ?_ _)); exact BK1162.out) hb)
                              have n4_ := Aside0.mk (blk_below (g := gb1164) (o := .cells #[.int .i64 a0_0, .bool x1165001_16, .int .i64 x1165002_30, .int .i64 x1165003_35, u1165004, .bool (!a0_5)] 84 (0, 0)) (by (with_reducible repeat (first | refine blk_drewN ?_ _ | refine blk_drew ?_ | refine blk_alloc ?_ _)); exact BK1164.out) hb)
                              have n5_ := Aside0.mk (below_step (by repeat (first | (with_reducible first | exact HB.out | apply below_alloc | apply pw_below_drewN | apply below_drew1 | refine below_set ?_ GE1161.out | refine below_set ?_ GE1162.out | refine below_set ?_ GE1164.out) | exact HB.out)) hb)
                              clear HO_1162004
                              clear HO_1165004
                              clear BK1161
                              clear BK1162
                              clear BK1164
                              clear HB
                              have HO_1162004 := n0_
                              have HO_1165004 := n1_
                              have BK1161 := n2_
                              have BK1162 := n3_
                              have BK1164 := n4_
                              have HB := n5_
                              clear n0_ n1_ n2_ n3_ n4_ n5_
                              (try clear hb)
                              (try clear hb2)
                              (try clear hk)
                              (try clear hi)
                              refine hK.out _ _ ⟨(blk_cell BK1161.out 0).trans rfl, (blk_cell BK1161.out 1).trans rfl, (blk_cell BK1161.out 2).trans rfl, (blk_cell BK1161.out 3).trans rfl, (blk_cell BK1161.out 4).trans rfl, (blk_cell BK1161.out 5).trans rfl, (blk_cell BK1162.out 0).trans rfl, (blk_cell BK1162.out 1).trans rfl, (blk_cell BK1162.out 2).trans rfl, (blk_cell BK1162.out 3).trans rfl, (blk_cell BK1162.out 4).trans rfl, (blk_cell BK1162.out 5).trans rfl⟩ (fun hHeld => ?_)
                              clear hK K
                              refine norm_ (a' := ?_) ?_ ?_
                              rotate_left
                              · show Act.put _ (some 62) _ = _
                                simp only [Act.put, List.setIfInBounds_toArray, List.set_cons_zero, List.set_cons_succ, i64_w, i32_w]
                                rfl
                              refine pure_ (i := 6) (N := some 63) (v := ?_) (a' := ?_) #[true, true, true, true, true, true, true, false, false, false, false, false, false, false, false, false, false, false, false, false, false, false] rfl rfl (any_of HT_.out (by kernel_rfl)) (fun _ _ _ h => h) (Or.inl ⟨by rfl, ?_⟩) ?_ ?_
                              rotate_left
                              · intro w'
                                go_simp
                                with_reducible rfl
                              rotate_left
                              · simp only [Act.put, List.setIfInBounds_toArray, List.set_cons_zero, List.set_cons_succ, i64_w, i32_w]
                                rfl
                              refine pure_ (i := 7) (N := some 64) (v := ?_) (a' := ?_) #[true, true, true, true, true, true, true, true, false, false, false, false, false, false, false, false, false, false, false, false, false, false] rfl rfl (any_of HT_.out (by kernel_rfl)) (fun _ _ _ h => h) (Or.inl ⟨by rfl, ?_⟩) ?_ ?_
                              rotate_left
                              · intro w'
                                go_simp
                                with_reducible rfl
                              rotate_left
                              · simp only [Act.put, List.setIfInBounds_toArray, List.set_cons_zero, List.set_cons_succ, i64_w, i32_w]
                                rfl
                              refine take_ (i := 8) (N := some 65) (v := ?_) (a' := ?_) #[true, true, true, true, true, true, true, true, true, false, false, false, false, false, false, false, false, false, false, false, false, false] rfl rfl (take_ofW HT_.out HW_.out (by kernel_rfl)) (fun _ _ _ h => h) (Or.inl ⟨by rfl, ?_⟩) hHeld ?_ ?_
                              rotate_left
                              · rintro w' ⟨s0, s1, s2, s3, s4, s5, s6, s7, s8, s9, s10, s11⟩
                                go_simp
                                with_reducible rfl
                              rotate_left
                              · simp only [Act.put, List.setIfInBounds_toArray, List.set_cons_zero, List.set_cons_succ, i64_w, i32_w]
                                rfl
                              refine take_ (i := 9) (N := some 66) (v := ?_) (a' := ?_) #[true, true, true, true, true, true, true, true, true, true, false, false, false, false, false, false, false, false, false, false, false, false] rfl rfl (take_ofW HT_.out HW_.out (by kernel_rfl)) (fun _ _ _ h => h) (Or.inl ⟨by rfl, ?_⟩) hHeld ?_ ?_
                              rotate_left
                              · rintro w' ⟨s0, s1, s2, s3, s4, s5, s6, s7, s8, s9, s10, s11⟩
                                go_simp
                                with_reducible rfl
                              rotate_left
                              · simp only [Act.put, List.setIfInBounds_toArray, List.set_cons_zero, List.set_cons_succ, i64_w, i32_w]
                                rfl
                              refine one_ (i := 10) (N := some 67) #[true, true, true, true, true, true, true, true, true, true, true, false, false, false, false, false, false, false, false, false, false, false] rfl rfl (one_of HT_.out (by kernel_rfl)) (by decide) (fun K hK => ?_)
                              refine goes_ Try.func81 (by kernel_rfl) rfl #[.agg #[.int .i64 a0_0, .bool a0_1, .int .i64 a0_2, .int .i64 a0_3, .slice A0_4 l0_4.length c0_4, .bool a0_5], .agg #[.int .i64 a0_0, .bool a0_1, .int .i64 a0_2, .int .i64 a0_3, .slice A0_4 l0_4.length c0_4, .bool a0_5]] (by rfl) rfl rfl (by (try simp only [List.map_toArray, List.map_cons, List.map_nil]); first | done | rfl | (simp only [List.length_drop, List.length_take]; rfl)) ?_
                              with_reducible refine (model_Same.calls kj40 a0_0 a0_1 a0_2 a0_3 _ _ l0_4 a0_5 a0_0 a0_1 a0_2 a0_3 _ _ l0_4 a0_5 false _ ?side1 ?side2 ?side3 ?side4 A58.out).mono ?_
                              (case side1 => repeat (first | exact (Kd.V_reads' HO_1162004.out).2.2 | (with_reducible refine Kd.C_alloc ?_ _) | (with_reducible refine Kd.C_drewN ?_ _) | (with_reducible refine Kd.C_drew ?_)))
                              (case side2 => exact (Kd.V_reads' HO_1162004.out).2.1)
                              (case side3 => repeat (first | exact (Kd.V_reads' HO_1162004.out).2.2 | (with_reducible refine Kd.C_alloc ?_ _) | (with_reducible refine Kd.C_drewN ?_ _) | (with_reducible refine Kd.C_drew ?_)))
                              (case side4 => exact (Kd.V_reads' HO_1162004.out).2.1)
                              rintro e w70 ⟨rfl, hb⟩
                              refine ⟨_, rfl, ?_⟩
                              have n0_ := Aside0.mk (Kd.V_below (by (with_reducible repeat (first | apply Kd.V_alloc | apply Kd.V_drewN | apply Kd.V_drew)); exact HO_1162004.out) hb)
                              have n1_ := Aside0.mk (Kd.V_below (by (with_reducible repeat (first | apply Kd.V_alloc | apply Kd.V_drewN | apply Kd.V_drew)); exact HO_1165004.out) hb)
                              have n2_ := Aside0.mk (blk_below (g := gb1161) (o := .cells #[.int .i64 a0_0, .bool a0_1, .int .i64 a0_2, .int .i64 a0_3, .slice A0_4 l0_4.length c0_4, .bool a0_5] 84 (0, 0)) (by (with_reducible repeat (first | refine blk_drewN ?_ _ | refine blk_drew ?_ | refine blk_alloc ?_ _)); exact BK1161.out) hb)
                              have n3_ := Aside0.mk (blk_below (g := gb1162) (o := .cells #[.int .i64 a1_0, .bool a1_1, .int .i64 a1_2, .int .i64 a1_3, .slice A1_4 l1_4.length c1_4, .bool a1_5] 84 (0, 0)) (by (with_reducible repeat (first | refine blk_drewN ?_ _ | refine blk_drew ?_ | refine blk_alloc ?_ _)); exact BK1162.out) hb)
                              have n4_ := Aside0.mk (blk_below (g := gb1164) (o := .cells #[.int .i64 a0_0, .bool x1165001_16, .int .i64 x1165002_30, .int .i64 x1165003_35, u1165004, .bool (!a0_5)] 84 (0, 0)) (by (with_reducible repeat (first | refine blk_drewN ?_ _ | refine blk_drew ?_ | refine blk_alloc ?_ _)); exact BK1164.out) hb)
                              have n5_ := Aside0.mk (below_step (by repeat (first | (with_reducible first | exact HB.out | apply below_alloc | apply pw_below_drewN | apply below_drew1 | refine below_set ?_ GE1161.out | refine below_set ?_ GE1162.out | refine below_set ?_ GE1164.out) | exact HB.out)) hb)
                              clear HO_1162004
                              clear HO_1165004
                              clear BK1161
                              clear BK1162
                              clear BK1164
                              clear HB
                              have HO_1162004 := n0_
                              have HO_1165004 := n1_
                              have BK1161 := n2_
                              have BK1162 := n3_
                              have BK1164 := n4_
                              have HB := n5_
                              clear n0_ n1_ n2_ n3_ n4_ n5_
                              (try clear hb)
                              (try clear hb2)
                              (try clear hk)
                              (try clear hi)
                              refine hK.out _ _ ⟨(blk_cell BK1161.out 0).trans rfl, (blk_cell BK1161.out 1).trans rfl, (blk_cell BK1161.out 2).trans rfl, (blk_cell BK1161.out 3).trans rfl, (blk_cell BK1161.out 4).trans rfl, (blk_cell BK1161.out 5).trans rfl, (blk_cell BK1162.out 0).trans rfl, (blk_cell BK1162.out 1).trans rfl, (blk_cell BK1162.out 2).trans rfl, (blk_cell BK1162.out 3).trans rfl, (blk_cell BK1162.out 4).trans rfl, (blk_cell BK1162.out 5).trans rfl⟩ (fun hHeld => ?_)
                              clear hK K
                              refine norm_ (a' := ?_) ?_ ?_
                              rotate_left
                              · show Act.put _ (some 67) _ = _
                                simp only [Act.put, List.setIfInBounds_toArray, List.set_cons_zero, List.set_cons_succ, i64_w, i32_w]
                                rfl
                              refine pure_ (i := 11) (N := some 68) (v := ?_) (a' := ?_) #[true, true, true, true, true, true, true, true, true, true, true, true, false, false, false, false, false, false, false, false, false, false] rfl rfl (any_of HT_.out (by kernel_rfl)) (fun _ _ _ h => h) (Or.inl ⟨by rfl, ?_⟩) ?_ ?_
                              rotate_left
                              · intro w'
                                go_simp
                                with_reducible rfl
                              rotate_left
                              · simp only [Act.put, List.setIfInBounds_toArray, List.set_cons_zero, List.set_cons_succ, i64_w, i32_w]
                                rfl
                              refine pure_ (i := 12) (N := some 69) (v := ?_) (a' := ?_) #[true, true, true, true, true, true, true, true, true, true, true, true, true, false, false, false, false, false, false, false, false, false] rfl rfl (any_of HT_.out (by kernel_rfl)) (fun _ _ _ h => h) (Or.inl ⟨by rfl, ?_⟩) ?_ ?_
                              rotate_left
                              · intro w'
                                go_simp
                                with_reducible rfl
                              rotate_left
                              · simp only [Act.put, List.setIfInBounds_toArray, List.set_cons_zero, List.set_cons_succ, i64_w, i32_w]
                                rfl
                              refine pure_ (i := 13) (N := some 70) (v := undef) (a' := ?_) #[true, true, true, true, true, true, true, true, true, true, true, true, true, true, false, false, false, false, false, false, false, false] rfl rfl (any_of HT_.out (by kernel_rfl)) (fun _ _ _ h => h) (Or.inr ⟨by rfl, rfl⟩) ?_ ?_
                              rotate_left
                              · simp only [Act.put, List.setIfInBounds_toArray, List.set_cons_zero, List.set_cons_succ, i64_w, i32_w]
                                rfl
                              refine pure_ (i := 14) (N := some 71) (v := undef) (a' := ?_) #[true, true, true, true, true, true, true, true, true, true, true, true, true, true, true, false, false, false, false, false, false, false] rfl rfl (any_of HT_.out (by kernel_rfl)) (fun _ _ _ h => h) (Or.inr ⟨by rfl, rfl⟩) ?_ ?_
                              rotate_left
                              · simp only [Act.put, List.setIfInBounds_toArray, List.set_cons_zero, List.set_cons_succ, i64_w, i32_w]
                                rfl
                              refine pure_ (i := 15) (N := some 72) (v := undef) (a' := ?_) #[true, true, true, true, true, true, true, true, true, true, true, true, true, true, true, true, false, false, false, false, false, false] rfl rfl (any_of HT_.out (by kernel_rfl)) (fun _ _ _ h => h) (Or.inr ⟨by rfl, rfl⟩) ?_ ?_
                              rotate_left
                              · simp only [Act.put, List.setIfInBounds_toArray, List.set_cons_zero, List.set_cons_succ, i64_w, i32_w]
                                rfl
                              refine pure_ (i := 16) (N := some 73) (v := undef) (a' := ?_) #[true, true, true, true, true, true, true, true, true, true, true, true, true, true, true, true, true, false, false, false, false, false] rfl rfl (any_of HT_.out (by kernel_rfl)) (fun _ _ _ h => h) (Or.inr ⟨by rfl, rfl⟩) ?_ ?_
                              rotate_left
                              · simp only [Act.put, List.setIfInBounds_toArray, List.set_cons_zero, List.set_cons_succ, i64_w, i32_w]
                                rfl
                              refine pure_ (i := 17) (N := some 74) (v := undef) (a' := ?_) #[true, true, true, true, true, true, true, true, true, true, true, true, true, true, true, true, true, true, false, false, false, false] rfl rfl (any_of HT_.out (by kernel_rfl)) (fun _ _ _ h => h) (Or.inr ⟨by rfl, rfl⟩) ?_ ?_
                              rotate_left
                              · simp only [Act.put, List.setIfInBounds_toArray, List.set_cons_zero, List.set_cons_succ, i64_w, i32_w]
                                rfl
                              refine pure_ (i := 18) (N := some 75) (v := undef) (a' := ?_) #[true, true, true, true, true, true, true, true, true, true, true, true, true, true, true, true, true, true, true, false, false, false] rfl rfl (any_of HT_.out (by kernel_rfl)) (fun _ _ _ h => h) (Or.inr ⟨by rfl, rfl⟩) ?_ ?_
                              rotate_left
                              · simp only [Act.put, List.setIfInBounds_toArray, List.set_cons_zero, List.set_cons_succ, i64_w, i32_w]
                                rfl
                              refine pure_ (i := 19) (N := some 76) (v := undef) (a' := ?_) #[true, true, true, true, true, true, true, true, true, true, true, true, true, true, true, true, true, true, true, true, false, false] rfl rfl (any_of HT_.out (by kernel_rfl)) (fun _ _ _ h => h) (Or.inr ⟨by rfl, rfl⟩) ?_ ?_
                              rotate_left
                              · simp only [Act.put, List.setIfInBounds_toArray, List.set_cons_zero, List.set_cons_succ, i64_w, i32_w]
                                rfl
                              refine pure_ (i := 20) (N := some 77) (v := ?_) (a' := ?_) #[true, true, true, true, true, true, true, true, true, true, true, true, true, true, true, true, true, true, true, true, true, false] rfl rfl (any_of HT_.out (by kernel_rfl)) (fun _ _ _ h => h) (Or.inl ⟨by rfl, ?_⟩) ?_ ?_
                              rotate_left
                              · intro w'
                                go_simp
                                with_reducible rfl
                              rotate_left
                              · simp only [Act.put, List.setIfInBounds_toArray, List.set_cons_zero, List.set_cons_succ, i64_w, i32_w]
                                rfl
                              refine pure_ (i := 21) (N := some 6) (v := ?_) (a' := ?_) #[true, true, true, true, true, true, true, true, true, true, true, true, true, true, true, true, true, true, true, true, true, true] rfl rfl (any_of HT_.out (by kernel_rfl)) (fun _ _ _ h => h) (Or.inl ⟨by rfl, ?_⟩) ?_ ?_
                              rotate_left
                              · intro w'
                                go_simp
                                with_reducible rfl
                              rotate_left
                              · simp only [Act.put, List.setIfInBounds_toArray, List.set_cons_zero, List.set_cons_succ, i64_w, i32_w]
                                rfl
                              refine done_ (done_of HT_.out (by kernel_rfl)) ?_
                              try go_wp2
                              go_ret
                              exact ⟨by first | rfl | (simp [errW_none, errW_some] <;> rfl) | (simp [*, errW_none, errW_some] <;> rfl), by repeat (first | (with_reducible first | exact HB.out | apply below_alloc | apply pw_below_drewN | apply below_drew1 | refine below_set ?_ GE1161.out | refine below_set ?_ GE1162.out | refine below_set ?_ GE1164.out) | exact HB.out)⟩
                          · rw [if_neg c57] at H
                            have c57b0 : (t1174 == t1175) = false := by simpa using c57
                            (try (have c57b1 : decide (t1174 = t1175) = false := by simpa using c57))
                            (try (have c57b2 : (t1174 == t1175) = false := by simpa using c57))
                            (try (have c57b3 : ¬ (t1174 = t1175) := by simpa using c57))
                            clear c57
                            obtain rfl := Option.some.inj H
                            try go_wp2
                            have n0_ := Aside0.mk (Kd.V_drew HO_1162004.out)
                            have n1_ := Aside0.mk (Kd.V_drew HO_1165004.out)
                            have n2_ := Aside0.mk (blk_drew BK1161.out)
                            have n3_ := Aside0.mk (blk_drew BK1162.out)
                            have n4_ := Aside0.mk (blk_drew BK1164.out)
                            have n5_ := Aside0.mk (below_drew1 HB.out)
                            clear HO_1162004
                            clear HO_1165004
                            clear BK1161
                            clear BK1162
                            clear BK1164
                            clear HB
                            have HO_1162004 := n0_
                            have HO_1165004 := n1_
                            have BK1161 := n2_
                            have BK1162 := n3_
                            have BK1164 := n4_
                            have HB := n5_
                            clear n0_ n1_ n2_ n3_ n4_ n5_
                            refine start_ (n := 22) (S := fun w' => w'.cell? ⟨gb1161, 0, none⟩ = some (.int .i64 a0_0) ∧ w'.cell? ⟨gb1161, 1, none⟩ = some (.bool a0_1) ∧ w'.cell? ⟨gb1161, 2, none⟩ = some (.int .i64 a0_2) ∧ w'.cell? ⟨gb1161, 3, none⟩ = some (.int .i64 a0_3) ∧ w'.cell? ⟨gb1161, 4, none⟩ = some (.slice A0_4 l0_4.length c0_4) ∧ w'.cell? ⟨gb1161, 5, none⟩ = some (.bool a0_5) ∧ w'.cell? ⟨gb1162, 0, none⟩ = some (.int .i64 a1_0) ∧ w'.cell? ⟨gb1162, 1, none⟩ = some (.bool a1_1) ∧ w'.cell? ⟨gb1162, 2, none⟩ = some (.int .i64 a1_2) ∧ w'.cell? ⟨gb1162, 3, none⟩ = some (.int .i64 a1_3) ∧ w'.cell? ⟨gb1162, 4, none⟩ = some (.slice A1_4 l1_4.length c1_4) ∧ w'.cell? ⟨gb1162, 5, none⟩ = some (.bool a1_5)) (ds := []) #[false, false, false, false, false, false, false, false, false, false, false, false, false, false, false, false, false, false, false, false, false, false] (by kernel_rfl) rfl rfl ⟨(blk_cell BK1161.out 0).trans rfl, (blk_cell BK1161.out 1).trans rfl, (blk_cell BK1161.out 2).trans rfl, (blk_cell BK1161.out 3).trans rfl, (blk_cell BK1161.out 4).trans rfl, (blk_cell BK1161.out 5).trans rfl, (blk_cell BK1162.out 0).trans rfl, (blk_cell BK1162.out 1).trans rfl, (blk_cell BK1162.out 2).trans rfl, (blk_cell BK1162.out 3).trans rfl, (blk_cell BK1162.out 4).trans rfl, (blk_cell BK1162.out 5).trans rfl⟩ (fun hHeld => ?_); refine with_tabW boscagelaw18_ModelSame.tab15 boscagelaw18_ModelSame.bits15 (fun HT_ HW_ => ?_)
                            generalize wc.drew = w71 at HO_1162004 HO_1165004 BK1161 BK1162 BK1164 HB hHeld ⊢
                            refine take_ (i := 0) (N := some 57) (v := ?_) (a' := ?_) #[true, false, false, false, false, false, false, false, false, false, false, false, false, false, false, false, false, false, false, false, false, false] rfl rfl (take_ofW HT_.out HW_.out (by kernel_rfl)) (fun _ _ _ h => h) (Or.inl ⟨by rfl, ?_⟩) hHeld ?_ ?_
                            rotate_left
                            · rintro w' ⟨s0, s1, s2, s3, s4, s5, s6, s7, s8, s9, s10, s11⟩
                              go_simp
                              with_reducible rfl
                            rotate_left
                            · simp only [Act.put, List.setIfInBounds_toArray, List.set_cons_zero, List.set_cons_succ, i64_w, i32_w]
                              rfl
                            refine take_ (i := 1) (N := some 58) (v := ?_) (a' := ?_) #[true, true, false, false, false, false, false, false, false, false, false, false, false, false, false, false, false, false, false, false, false, false] rfl rfl (take_ofW HT_.out HW_.out (by kernel_rfl)) (fun _ _ _ h => h) (Or.inl ⟨by rfl, ?_⟩) hHeld ?_ ?_
                            rotate_left
                            · rintro w' ⟨s0, s1, s2, s3, s4, s5, s6, s7, s8, s9, s10, s11⟩
                              go_simp
                              with_reducible rfl
                            rotate_left
                            · simp only [Act.put, List.setIfInBounds_toArray, List.set_cons_zero, List.set_cons_succ, i64_w, i32_w]
                              rfl
                            refine take_ (i := 3) (N := some 60) (v := ?_) (a' := ?_) #[true, true, false, true, false, false, false, false, false, false, false, false, false, false, false, false, false, false, false, false, false, false] rfl rfl (take_ofW HT_.out HW_.out (by kernel_rfl)) (fun _ _ _ h => h) (Or.inl ⟨by rfl, ?_⟩) hHeld ?_ ?_
                            rotate_left
                            · rintro w' ⟨s0, s1, s2, s3, s4, s5, s6, s7, s8, s9, s10, s11⟩
                              go_simp
                              with_reducible rfl
                            rotate_left
                            · simp only [Act.put, List.setIfInBounds_toArray, List.set_cons_zero, List.set_cons_succ, i64_w, i32_w]
                              rfl
                            refine take_ (i := 4) (N := some 61) (v := ?_) (a' := ?_) #[true, true, false, true, true, false, false, false, false, false, false, false, false, false, false, false, false, false, false, false, false, false] rfl rfl (take_ofW HT_.out HW_.out (by kernel_rfl)) (fun _ _ _ h => h) (Or.inl ⟨by rfl, ?_⟩) hHeld ?_ ?_
                            rotate_left
                            · rintro w' ⟨s0, s1, s2, s3, s4, s5, s6, s7, s8, s9, s10, s11⟩
                              go_simp
                              with_reducible rfl
                            rotate_left
                            · simp only [Act.put, List.setIfInBounds_toArray, List.set_cons_zero, List.set_cons_succ, i64_w, i32_w]
                              rfl
                            refine one_ (i := 2) (N := some 59) #[true, true, true, true, true, false, false, false, false, false, false, false, false, false, false, false, false, false, false, false, false, false] rfl rfl (one_of HT_.out (by kernel_rfl)) (by decide) (fun K hK => ?_)
                            refine goes_ Try.func81 (by kernel_rfl) rfl #[.agg #[.int .i64 a0_0, .bool a0_1, .int .i64 a0_2, .int .i64 a0_3, .slice A0_4 l0_4.length c0_4, .bool a0_5], .agg #[.int .i64 a1_0, .bool a1_1, .int .i64 a1_2, .int .i64 a1_3, .slice A1_4 l1_4.length c1_4, .bool a1_5]] (by rfl) rfl rfl (by (try simp only [List.map_toArray, List.map_cons, List.map_nil]); first | done | rfl | (simp only [List.length_drop, List.length_take]; rfl)) ?_
                            with_reducible refine (model_Same.calls kj40 a0_0 a0_1 a0_2 a0_3 _ _ l0_4 a0_5 a1_0 a1_1 a1_2 a1_3 _ _ l1_4 a1_5 t1174 _ ?side1 ?side2 ?side3 ?side4 A55.out).mono ?_
                            (case side1 => repeat (first | exact (Kd.V_reads' HO_1162004.out).2.2 | (with_reducible refine Kd.C_alloc ?_ _) | (with_reducible refine Kd.C_drewN ?_ _) | (with_reducible refine Kd.C_drew ?_)))
                            (case side2 => exact (Kd.V_reads' HO_1162004.out).2.1)
                            (case side3 => repeat (first | exact (Kd.C_below HR1_4.out HB.out) | (with_reducible refine Kd.C_alloc ?_ _) | (with_reducible refine Kd.C_drewN ?_ _) | (with_reducible refine Kd.C_drew ?_)))
                            (case side4 => exact HC1_4.out)
                            rintro e w72 ⟨rfl, hb⟩
                            refine ⟨_, rfl, ?_⟩
                            have n0_ := Aside0.mk (Kd.V_below (by (with_reducible repeat (first | apply Kd.V_alloc | apply Kd.V_drewN | apply Kd.V_drew)); exact HO_1162004.out) hb)
                            have n1_ := Aside0.mk (Kd.V_below (by (with_reducible repeat (first | apply Kd.V_alloc | apply Kd.V_drewN | apply Kd.V_drew)); exact HO_1165004.out) hb)
                            have n2_ := Aside0.mk (blk_below (g := gb1161) (o := .cells #[.int .i64 a0_0, .bool a0_1, .int .i64 a0_2, .int .i64 a0_3, .slice A0_4 l0_4.length c0_4, .bool a0_5] 84 (0, 0)) (by (with_reducible repeat (first | refine blk_drewN ?_ _ | refine blk_drew ?_ | refine blk_alloc ?_ _)); exact BK1161.out) hb)
                            have n3_ := Aside0.mk (blk_below (g := gb1162) (o := .cells #[.int .i64 a1_0, .bool a1_1, .int .i64 a1_2, .int .i64 a1_3, .slice A1_4 l1_4.length c1_4, .bool a1_5] 84 (0, 0)) (by (with_reducible repeat (first | refine blk_drewN ?_ _ | refine blk_drew ?_ | refine blk_alloc ?_ _)); exact BK1162.out) hb)
                            have n4_ := Aside0.mk (blk_below (g := gb1164) (o := .cells #[.int .i64 a0_0, .bool x1165001_16, .int .i64 x1165002_30, .int .i64 x1165003_35, u1165004, .bool (!a0_5)] 84 (0, 0)) (by (with_reducible repeat (first | refine blk_drewN ?_ _ | refine blk_drew ?_ | refine blk_alloc ?_ _)); exact BK1164.out) hb)
                            have n5_ := Aside0.mk (below_step (by repeat (first | (with_reducible first | exact HB.out | apply below_alloc | apply pw_below_drewN | apply below_drew1 | refine below_set ?_ GE1161.out | refine below_set ?_ GE1162.out | refine below_set ?_ GE1164.out) | exact HB.out)) hb)
                            clear HO_1162004
                            clear HO_1165004
                            clear BK1161
                            clear BK1162
                            clear BK1164
                            clear HB
                            have HO_1162004 := n0_
                            have HO_1165004 := n1_
                            have BK1161 := n2_
                            have BK1162 := n3_
                            have BK1164 := n4_
                            have HB := n5_
                            clear n0_ n1_ n2_ n3_ n4_ n5_
                            (try clear hb)
                            (try clear hb2)
                            (try clear hk)
                            (try clear hi)
                            refine hK.out _ _ ⟨(blk_cell BK1161.out 0).trans rfl, (blk_cell BK1161.out 1).trans rfl, (blk_cell BK1161.out 2).trans rfl, (blk_cell BK1161.out 3).trans rfl, (blk_cell BK1161.out 4).trans rfl, (blk_cell BK1161.out 5).trans rfl, (blk_cell BK1162.out 0).trans rfl, (blk_cell BK1162.out 1).trans rfl, (blk_cell BK1162.out 2).trans rfl, (blk_cell BK1162.out 3).trans rfl, (blk_cell BK1162.out 4).trans rfl, (blk_cell BK1162.out 5).trans rfl⟩ (fun hHeld => ?_)
                            clear hK K
                            refine norm_ (a' := ?_) ?_ ?_
                            rotate_left
                            · show Act.put _ (some 59) _ = _
                              simp only [Act.put, List.setIfInBounds_toArray, List.set_cons_zero, List.set_cons_succ, i64_w, i32_w]
                              rfl
                            refine one_ (i := 5) (N := some 62) #[true, true, true, true, true, true, false, false, false, false, false, false, false, false, false, false, false, false, false, false, false, false] rfl rfl (one_of HT_.out (by kernel_rfl)) (by decide) (fun K hK => ?_)
                            refine goes_ Try.func73 (by kernel_rfl) rfl #[.agg #[.int .i64 a0_0, .bool a0_1, .int .i64 a0_2, .int .i64 a0_3, .slice A0_4 l0_4.length c0_4, .bool a0_5], .agg #[.int .i64 a1_0, .bool a1_1, .int .i64 a1_2, .int .i64 a1_3, .slice A1_4 l1_4.length c1_4, .bool a1_5]] (by rfl) rfl rfl (by (try simp only [List.map_toArray, List.map_cons, List.map_nil]); first | done | rfl | (simp only [List.length_drop, List.length_take]; rfl)) ?_
                            with_reducible refine (boscagelaw18_Same.calls kj40 a0_0 a0_1 a0_2 a0_3 _ _ l0_4 a0_5 a1_0 a1_1 a1_2 a1_3 _ _ l1_4 a1_5 t1175 _ ?side1 ?side2 ?side3 ?side4 A56.out).mono ?_
                            (case side1 => repeat (first | exact (Kd.V_reads' HO_1162004.out).2.2 | (with_reducible refine Kd.C_alloc ?_ _) | (with_reducible refine Kd.C_drewN ?_ _) | (with_reducible refine Kd.C_drew ?_)))
                            (case side2 => exact (Kd.V_reads' HO_1162004.out).2.1)
                            (case side3 => repeat (first | exact (Kd.C_below HR1_4.out HB.out) | (with_reducible refine Kd.C_alloc ?_ _) | (with_reducible refine Kd.C_drewN ?_ _) | (with_reducible refine Kd.C_drew ?_)))
                            (case side4 => exact HC1_4.out)
                            rintro e w73 ⟨rfl, hb⟩
                            refine ⟨_, rfl, ?_⟩
                            have n0_ := Aside0.mk (Kd.V_below (by (with_reducible repeat (first | apply Kd.V_alloc | apply Kd.V_drewN | apply Kd.V_drew)); exact HO_1162004.out) hb)
                            have n1_ := Aside0.mk (Kd.V_below (by (with_reducible repeat (first | apply Kd.V_alloc | apply Kd.V_drewN | apply Kd.V_drew)); exact HO_1165004.out) hb)
                            have n2_ := Aside0.mk (blk_below (g := gb1161) (o := .cells #[.int .i64 a0_0, .bool a0_1, .int .i64 a0_2, .int .i64 a0_3, .slice A0_4 l0_4.length c0_4, .bool a0_5] 84 (0, 0)) (by (with_reducible repeat (first | refine blk_drewN ?_ _ | refine blk_drew ?_ | refine blk_alloc ?_ _)); exact BK1161.out) hb)
                            have n3_ := Aside0.mk (blk_below (g := gb1162) (o := .cells #[.int .i64 a1_0, .bool a1_1, .int .i64 a1_2, .int .i64 a1_3, .slice A1_4 l1_4.length c1_4, .bool a1_5] 84 (0, 0)) (by (with_reducible repeat (first | refine blk_drewN ?_ _ | refine blk_drew ?_ | refine blk_alloc ?_ _)); exact BK1162.out) hb)
                            have n4_ := Aside0.mk (blk_below (g := gb1164) (o := .cells #[.int .i64 a0_0, .bool x1165001_16, .int .i64 x1165002_30, .int .i64 x1165003_35, u1165004, .bool (!a0_5)] 84 (0, 0)) (by (with_reducible repeat (first | refine blk_drewN ?_ _ | refine blk_drew ?_ | refine blk_alloc ?_ _)); exact BK1164.out) hb)
                            have n5_ := Aside0.mk (below_step (by repeat (first | (with_reducible first | exact HB.out | apply below_alloc | apply pw_below_drewN | apply below_drew1 | refine below_set ?_ GE1161.out | refine below_set ?_ GE1162.out | refine below_set ?_ GE1164.out) | exact HB.out)) hb)
                            clear HO_1162004
                            clear HO_1165004
                            clear BK1161
                            clear BK1162
                            clear BK1164
                            clear HB
                            have HO_1162004 := n0_
                            have HO_1165004 := n1_
                            have BK1161 := n2_
                            have BK1162 := n3_
                            have BK1164 := n4_
                            have HB := n5_
                            clear n0_ n1_ n2_ n3_ n4_ n5_
                            (try clear hb)
                            (try clear hb2)
                            (try clear hk)
                            (try clear hi)
                            refine hK.out _ _ ⟨(blk_cell BK1161.out 0).trans rfl, (blk_cell BK1161.out 1).trans rfl, (blk_cell BK1161.out 2).trans rfl, (blk_cell BK1161.out 3).trans rfl, (blk_cell BK1161.out 4).trans rfl, (blk_cell BK1161.out 5).trans rfl, (blk_cell BK1162.out 0).trans rfl, (blk_cell BK1162.out 1).trans rfl, (blk_cell BK1162.out 2).trans rfl, (blk_cell BK1162.out 3).trans rfl, (blk_cell BK1162.out 4).trans rfl, (blk_cell BK1162.out 5).trans rfl⟩ (fun hHeld => ?_)
                            clear hK K
                            refine norm_ (a' := ?_) ?_ ?_
                            rotate_left
                            · show Act.put _ (some 62) _ = _
                              simp only [Act.put, List.setIfInBounds_toArray, List.set_cons_zero, List.set_cons_succ, i64_w, i32_w]
                              rfl
                            refine pure_ (i := 6) (N := some 63) (v := ?_) (a' := ?_) #[true, true, true, true, true, true, true, false, false, false, false, false, false, false, false, false, false, false, false, false, false, false] rfl rfl (any_of HT_.out (by kernel_rfl)) (fun _ _ _ h => h) (Or.inl ⟨by rfl, ?_⟩) ?_ ?_
                            rotate_left
                            · intro w'
                              go_simp
                              with_reducible rfl
                            rotate_left
                            · simp only [Act.put, List.setIfInBounds_toArray, List.set_cons_zero, List.set_cons_succ, i64_w, i32_w]
                              rfl
                            refine pure_ (i := 7) (N := some 64) (v := ?_) (a' := ?_) #[true, true, true, true, true, true, true, true, false, false, false, false, false, false, false, false, false, false, false, false, false, false] rfl rfl (any_of HT_.out (by kernel_rfl)) (fun _ _ _ h => h) (Or.inl ⟨by rfl, ?_⟩) ?_ ?_
                            rotate_left
                            · intro w'
                              go_simp
                              with_reducible rfl
                            rotate_left
                            · simp only [Act.put, List.setIfInBounds_toArray, List.set_cons_zero, List.set_cons_succ, i64_w, i32_w]
                              rfl
                            refine pure_ (i := 8) (N := some 65) (v := undef) (a' := ?_) #[true, true, true, true, true, true, true, true, true, false, false, false, false, false, false, false, false, false, false, false, false, false] rfl rfl (any_of HT_.out (by kernel_rfl)) (fun _ _ _ h => h) (Or.inr ⟨by rfl, rfl⟩) ?_ ?_
                            rotate_left
                            · simp only [Act.put, List.setIfInBounds_toArray, List.set_cons_zero, List.set_cons_succ, i64_w, i32_w]
                              rfl
                            refine pure_ (i := 9) (N := some 66) (v := undef) (a' := ?_) #[true, true, true, true, true, true, true, true, true, true, false, false, false, false, false, false, false, false, false, false, false, false] rfl rfl (any_of HT_.out (by kernel_rfl)) (fun _ _ _ h => h) (Or.inr ⟨by rfl, rfl⟩) ?_ ?_
                            rotate_left
                            · simp only [Act.put, List.setIfInBounds_toArray, List.set_cons_zero, List.set_cons_succ, i64_w, i32_w]
                              rfl
                            refine pure_ (i := 10) (N := some 67) (v := undef) (a' := ?_) #[true, true, true, true, true, true, true, true, true, true, true, false, false, false, false, false, false, false, false, false, false, false] rfl rfl (any_of HT_.out (by kernel_rfl)) (fun _ _ _ h => h) (Or.inr ⟨by rfl, rfl⟩) ?_ ?_
                            rotate_left
                            · simp only [Act.put, List.setIfInBounds_toArray, List.set_cons_zero, List.set_cons_succ, i64_w, i32_w]
                              rfl
                            refine pure_ (i := 11) (N := some 68) (v := ?_) (a' := ?_) #[true, true, true, true, true, true, true, true, true, true, true, true, false, false, false, false, false, false, false, false, false, false] rfl rfl (any_of HT_.out (by kernel_rfl)) (fun _ _ _ h => h) (Or.inl ⟨by rfl, ?_⟩) ?_ ?_
                            rotate_left
                            · intro w'
                              go_simp
                              with_reducible rfl
                            rotate_left
                            · simp only [Act.put, List.setIfInBounds_toArray, List.set_cons_zero, List.set_cons_succ, i64_w, i32_w]
                              rfl
                            refine pure_ (i := 12) (N := some 69) (v := ?_) (a' := ?_) #[true, true, true, true, true, true, true, true, true, true, true, true, true, false, false, false, false, false, false, false, false, false] rfl rfl (any_of HT_.out (by kernel_rfl)) (fun _ _ _ h => h) (Or.inl ⟨by rfl, ?_⟩) ?_ ?_
                            rotate_left
                            · intro w'
                              go_simp
                              with_reducible rfl
                            rotate_left
                            · simp only [Act.put, List.setIfInBounds_toArray, List.set_cons_zero, List.set_cons_succ, i64_w, i32_w]
                              rfl
                            refine pure_ (i := 13) (N := some 70) (v := undef) (a' := ?_) #[true, true, true, true, true, true, true, true, true, true, true, true, true, true, false, false, false, false, false, false, false, false] rfl rfl (any_of HT_.out (by kernel_rfl)) (fun _ _ _ h => h) (Or.inr ⟨by rfl, rfl⟩) ?_ ?_
                            rotate_left
                            · simp only [Act.put, List.setIfInBounds_toArray, List.set_cons_zero, List.set_cons_succ, i64_w, i32_w]
                              rfl
                            refine pure_ (i := 14) (N := some 71) (v := undef) (a' := ?_) #[true, true, true, true, true, true, true, true, true, true, true, true, true, true, true, false, false, false, false, false, false, false] rfl rfl (any_of HT_.out (by kernel_rfl)) (fun _ _ _ h => h) (Or.inr ⟨by rfl, rfl⟩) ?_ ?_
                            rotate_left
                            · simp only [Act.put, List.setIfInBounds_toArray, List.set_cons_zero, List.set_cons_succ, i64_w, i32_w]
                              rfl
                            refine pure_ (i := 15) (N := some 72) (v := undef) (a' := ?_) #[true, true, true, true, true, true, true, true, true, true, true, true, true, true, true, true, false, false, false, false, false, false] rfl rfl (any_of HT_.out (by kernel_rfl)) (fun _ _ _ h => h) (Or.inr ⟨by rfl, rfl⟩) ?_ ?_
                            rotate_left
                            · simp only [Act.put, List.setIfInBounds_toArray, List.set_cons_zero, List.set_cons_succ, i64_w, i32_w]
                              rfl
                            refine pure_ (i := 16) (N := some 73) (v := undef) (a' := ?_) #[true, true, true, true, true, true, true, true, true, true, true, true, true, true, true, true, true, false, false, false, false, false] rfl rfl (any_of HT_.out (by kernel_rfl)) (fun _ _ _ h => h) (Or.inr ⟨by rfl, rfl⟩) ?_ ?_
                            rotate_left
                            · simp only [Act.put, List.setIfInBounds_toArray, List.set_cons_zero, List.set_cons_succ, i64_w, i32_w]
                              rfl
                            refine pure_ (i := 17) (N := some 74) (v := undef) (a' := ?_) #[true, true, true, true, true, true, true, true, true, true, true, true, true, true, true, true, true, true, false, false, false, false] rfl rfl (any_of HT_.out (by kernel_rfl)) (fun _ _ _ h => h) (Or.inr ⟨by rfl, rfl⟩) ?_ ?_
                            rotate_left
                            · simp only [Act.put, List.setIfInBounds_toArray, List.set_cons_zero, List.set_cons_succ, i64_w, i32_w]
                              rfl
                            refine pure_ (i := 18) (N := some 75) (v := undef) (a' := ?_) #[true, true, true, true, true, true, true, true, true, true, true, true, true, true, true, true, true, true, true, false, false, false] rfl rfl (any_of HT_.out (by kernel_rfl)) (fun _ _ _ h => h) (Or.inr ⟨by rfl, rfl⟩) ?_ ?_
                            rotate_left
                            · simp only [Act.put, List.setIfInBounds_toArray, List.set_cons_zero, List.set_cons_succ, i64_w, i32_w]
                              rfl
                            refine pure_ (i := 19) (N := some 76) (v := undef) (a' := ?_) #[true, true, true, true, true, true, true, true, true, true, true, true, true, true, true, true, true, true, true, true, false, false] rfl rfl (any_of HT_.out (by kernel_rfl)) (fun _ _ _ h => h) (Or.inr ⟨by rfl, rfl⟩) ?_ ?_
                            rotate_left
                            · simp only [Act.put, List.setIfInBounds_toArray, List.set_cons_zero, List.set_cons_succ, i64_w, i32_w]
                              rfl
                            refine pure_ (i := 20) (N := some 77) (v := ?_) (a' := ?_) #[true, true, true, true, true, true, true, true, true, true, true, true, true, true, true, true, true, true, true, true, true, false] rfl rfl (any_of HT_.out (by kernel_rfl)) (fun _ _ _ h => h) (Or.inl ⟨by rfl, ?_⟩) ?_ ?_
                            rotate_left
                            · intro w'
                              go_simp
                              with_reducible rfl
                            rotate_left
                            · simp only [Act.put, List.setIfInBounds_toArray, List.set_cons_zero, List.set_cons_succ, i64_w, i32_w]
                              rfl
                            refine pure_ (i := 21) (N := some 6) (v := ?_) (a' := ?_) #[true, true, true, true, true, true, true, true, true, true, true, true, true, true, true, true, true, true, true, true, true, true] rfl rfl (any_of HT_.out (by kernel_rfl)) (fun _ _ _ h => h) (Or.inl ⟨by rfl, ?_⟩) ?_ ?_
                            rotate_left
                            · intro w'
                              go_simp
                              with_reducible rfl
                            rotate_left
                            · simp only [Act.put, List.setIfInBounds_toArray, List.set_cons_zero, List.set_cons_succ, i64_w, i32_w]
                              rfl
                            refine done_ (done_of HT_.out (by kernel_rfl)) ?_
                            try go_wp2
                            go_ret
                            exact ⟨by first | rfl | (simp [errW_none, errW_some] <;> rfl) | (simp [*, errW_none, errW_some] <;> rfl), by repeat (first | (with_reducible first | exact HB.out | apply below_alloc | apply pw_below_drewN | apply below_drew1 | refine below_set ?_ GE1161.out | refine below_set ?_ GE1162.out | refine below_set ?_ GE1164.out) | exact HB.out)⟩
  · replace c5 := Bool.eq_false_iff.mpr c5
    subst c5
    have H1 : (some false) = some r := by rw [if_neg (show ¬ (false = true) by decide)] at H; exact H
    clear H
    have H := H1
    clear H1
    obtain rfl := Option.some.inj H
    go_enter Try.func27, Try.ntmps27
    go_wp2_with (first | ((with_reducible refine gate_dst (N := 3) rfl ?_); (try (refine gate_guard (by rfl) ?_; dsimp only)); refine box_event ?hg (N := 3) ?hd (cs := #[.int .i64 a0_0, .bool a0_1, .int .i64 a0_2, .int .i64 a0_3, .slice A0_4 l0_4.length c0_4, .bool a0_5]) (t := 84) ?hr ?_; (case hd => rfl); (case hg => rfl); (case hr => first | (go_simp; done) | (go_simp; rfl)); intro gb1161 hg w74 hbox hb; have n0_ := Aside0.mk (Kd.V_below (Kd.V_elderB (by (with_reducible repeat (first | apply Kd.V_alloc | apply Kd.V_drewN | apply Kd.V_drew)); exact HO0_4.out) gb1161 (Nat.le_of_eq hg.symm)) hb); have n1_ := Aside0.mk (below_step (by repeat (first | (with_reducible first | exact HB.out | apply below_alloc | apply pw_below_drewN | apply below_drew1) | exact HB.out)) hb); have n2_ := Aside0.mk (hbox); have n3_ := Aside0.mk ((by rw [hg]; exact (below_size (by repeat (first | (with_reducible first | exact HB.out | apply below_alloc | apply pw_below_drewN | apply below_drew1) | exact HB.out))) : w.heap.size ≤ gb1161)); have n4_ := Aside0.mk ((by rw [hg]; exact (below_size (by repeat (first | (with_reducible first | exact HB.out | apply below_alloc | apply pw_below_drewN | apply below_drew1) | exact HB.out))) : w.heap.size ≤ gb1161)); clear HO0_4; clear HB; have HO0_4 := n0_; have HB := n1_; have BK1161 := n2_; have GW1161 := n3_; have GE1161 := n4_; clear n0_ n1_ n2_ n3_ n4_; clear hb hbox hg) | ((with_reducible refine gate_dst (N := 4) rfl ?_); (try (refine gate_guard (by rfl) ?_; dsimp only)); refine box_event ?hg (N := 4) ?hd (cs := #[.int .i64 a1_0, .bool a1_1, .int .i64 a1_2, .int .i64 a1_3, .slice A1_4 l1_4.length c1_4, .bool a1_5]) (t := 84) ?hr ?_; (case hd => rfl); (case hg => rfl); (case hr => first | (go_simp; done) | (go_simp; rfl)); intro gb1162 hg w75 hbox hb; have n0_ := Aside0.mk (Kd.V_below (Kd.V_elderB (by (with_reducible repeat (first | apply Kd.V_alloc | apply Kd.V_drewN | apply Kd.V_drew)); exact HO0_4.out) gb1162 (Nat.le_of_eq hg.symm)) hb); have n1_ := Aside0.mk (blk_below (g := gb1161) (o := .cells #[.int .i64 a0_0, .bool a0_1, .int .i64 a0_2, .int .i64 a0_3, .slice A0_4 l0_4.length c0_4, .bool a0_5] 84 (0, 0)) (by (with_reducible repeat (first | refine blk_drewN ?_ _ | refine blk_drew ?_ | refine blk_alloc ?_ _)); exact BK1161.out) hb); have n2_ := Aside0.mk (below_step (by repeat (first | (with_reducible first | exact HB.out | apply below_alloc | apply pw_below_drewN | apply below_drew1 | refine below_set ?_ GE1161.out) | exact HB.out)) hb); have n3_ := Aside0.mk (hbox); have n4_ := Aside0.mk ((by rw [hg]; exact (below_size (by repeat (first | (with_reducible first | exact HB.out | apply below_alloc | apply pw_below_drewN | apply below_drew1 | refine below_set ?_ GE1161.out) | exact HB.out))) : w.heap.size ≤ gb1162)); have n5_ := Aside0.mk ((by rw [hg]; exact (below_size (by repeat (first | (with_reducible first | exact HB.out | apply below_alloc | apply pw_below_drewN | apply below_drew1 | refine below_set ?_ GE1161.out) | exact HB.out))) : w.heap.size ≤ gb1162)); have n6_ := Aside0.mk ((by rw [hg]; exact Nat.ne_of_lt (blk_lt (g := gb1161) (o := .cells #[.int .i64 a0_0, .bool a0_1, .int .i64 a0_2, .int .i64 a0_3, .slice A0_4 l0_4.length c0_4, .bool a0_5] 84 (0, 0)) (by (with_reducible repeat (first | refine blk_drewN ?_ _ | refine blk_drew ?_ | refine blk_alloc ?_ _)); exact BK1161.out)) : gb1161 ≠ gb1162)); have n7_ := Aside0.mk ((by rw [hg]; exact Nat.ne_of_gt (blk_lt (g := gb1161) (o := .cells #[.int .i64 a0_0, .bool a0_1, .int .i64 a0_2, .int .i64 a0_3, .slice A0_4 l0_4.length c0_4, .bool a0_5] 84 (0, 0)) (by (with_reducible repeat (first | refine blk_drewN ?_ _ | refine blk_drew ?_ | refine blk_alloc ?_ _)); exact BK1161.out)) : gb1162 ≠ gb1161)); clear HO0_4; clear BK1161; clear HB; have HO0_4 := n0_; have BK1161 := n1_; have HB := n2_; have BK1162 := n3_; have GW1162 := n4_; have GE1162 := n5_; have NB1161_1162 := n6_; have NB1162_1161 := n7_; clear n0_ n1_ n2_ n3_ n4_ n5_ n6_ n7_; clear hb hbox hg) | ((with_reducible refine gate_callee (f := 70) rfl ?_); refine goesL_ (some 8) rfl rfl Try.func70 (by kernel_rfl) rfl #[] rfl (by (try simp only [List.map_toArray, List.map_cons, List.map_nil]); first | done | rfl | (simp only [List.length_drop, List.length_take]; rfl)) ?_; (with_reducible refine (boscagelaw18_Awake.calls k  false _ A4.out).mono ?_); rintro e w76 ⟨rfl, hb⟩; refine ⟨_, rfl, ?_⟩; have n0_ := Aside0.mk (Kd.V_below (by (with_reducible repeat (first | apply Kd.V_alloc | apply Kd.V_drewN | apply Kd.V_drew)); exact HO0_4.out) hb); have n1_ := Aside0.mk (blk_below (g := gb1161) (o := .cells #[.int .i64 a0_0, .bool a0_1, .int .i64 a0_2, .int .i64 a0_3, .slice A0_4 l0_4.length c0_4, .bool a0_5] 84 (0, 0)) (by (with_reducible repeat (first | refine blk_drewN ?_ _ | refine blk_drew ?_ | refine blk_alloc ?_ _)); exact BK1161.out) hb); have n2_ := Aside0.mk (blk_below (g := gb1162) (o := .cells #[.int .i64 a1_0, .bool a1_1, .int .i64 a1_2, .int .i64 a1_3, .slice A1_4 l1_4.length c1_4, .bool a1_5] 84 (0, 0)) (by (with_reducible repeat (first | refine blk_drewN ?_ _ | refine blk_drew ?_ | refine blk_alloc ?_ _)); exact BK1162.out) hb); have n3_ := Aside0.mk (below_step (by repeat (first | (with_reducible first | exact HB.out | apply below_alloc | apply pw_below_drewN | apply below_drew1 | refine below_set ?_ GE1161.out | refine below_set ?_ GE1162.out) | exact HB.out)) hb); clear HO0_4; clear BK1161; clear BK1162; clear HB; have HO0_4 := n0_; have BK1161 := n1_; have BK1162 := n2_; have HB := n3_; clear n0_ n1_ n2_ n3_; (try clear hb); (try clear hb2); (try clear hk); (try clear hi)))
    go_ret
    exact ⟨by first | rfl | (simp [errW_none, errW_some] <;> rfl) | (simp [*, errW_none, errW_some] <;> rfl), by repeat (first | (with_reducible first | exact HB.out | apply below_alloc | apply pw_below_drewN | apply below_drew1 | refine below_set ?_ GE1161.out | refine below_set ?_ GE1162.out) | exact HB.out)⟩

end Go.Proofs.Ytkoiffkonjpoiaa.Q
