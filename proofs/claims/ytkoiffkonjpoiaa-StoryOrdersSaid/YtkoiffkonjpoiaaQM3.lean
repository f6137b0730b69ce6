/- Several texts of this claim in one: contracts of the program's functions, and plain lemmas about what they compute; each is stated under its own conditions. -/
import Derived.Test.YtkoiffkonjpoiaaQM1
import Derived.Test.YtkoiffkonjpoiaaWMore
set_option linter.unusedVariables false
set_option linter.unusedSimpArgs false
namespace Go.Proofs.Ytkoiffkonjpoiaa.Q
open Go.RowKit Go.Proofs.YtkoiffkonjpoiaaW.PrintWords Go.Proofs.YtkoiffkonjpoiaaW.PrintLast Go.Proofs.YtkoiffkonjpoiaaW.PrintMore Go.Proofs.YtkoiffkonjpoiaaX
attribute [local go_sem] max2_int min2_int max_two min_two max_three min_three max_four min_four   -- for this text's walks alone
set_option linter.unusedVariables false
set_option linter.unusedSimpArgs false

def boscagelaw18_pick.f (l0 : List (S40)) (a1 : Int) : Option (Int × Bool × Int × Int × (List (S40)) × Bool) := if a1 < 0 then (some (0,false,0,0,([] : List (S40)),false)) else (if a1 ≥ (l0.length : Int) then (some (0,false,0,0,([] : List (S40)),false)) else (if 0 ≤ a1 then (if a1 < (l0.length : Int) then (some (0,true,(rd_T40 l0 a1).f0,(rd_T40 l0 a1).f1,([] : List (S40)),false)) else (none)) else (none)))
def boscagelaw18_pick.T3 : Bool × List (List Nat × List Nat) := (true,[([],[]),([],[]),([0,1],[0,1]),([2],[2]),([3],[3]),([],[]),([],[]),([5,6],[5,6]),([7],[7]),([8],[8]),([4,9],[4,9]),([10,0,1,2,3,4,5,6,7,8,9,10],[10])])
def boscagelaw18_pick.B3 : List Nat := [0,0,3,7,15,0,0,96,224,480,1023,2047]
theorem boscagelaw18_pick.tab3 : rtab .any (opsOf Try.f112 3) = boscagelaw18_pick.T3 := by kernel_rfl
theorem boscagelaw18_pick.bits3 : waitsOk boscagelaw18_pick.T3.2 boscagelaw18_pick.B3 = true := by kernel_rfl
set_option maxHeartbeats 8000000 in
set_option maxRecDepth 100000 in
theorem boscagelaw18_pick.calls (A0 : Option Addr) (c0 : Nat) (l0 : List (S40)) (a1 : Int) (r1 : Int) (r2 : Bool) (r3 : Int) (r4 : Int) (r5 : List (S40)) (r6 : Bool) (w : World) (hr0 : Kd.C k40 w A0 l0.length l0) (hc0 : l0.length ≤ c0) (h : boscagelaw18_pick.f l0 a1 = some (r1,r2,r3,r4,r5,r6)) :
    Calls Try.prog 112 #[.slice A0 l0.length c0,.int .i64 a1] w fun e w' => ∃ v4_ : Value,e = .returned (.agg #[.int .i64 r1,.bool r2,.int .i64 r3,.int .i64 r4,v4_,.bool r6]) ∧ Kd.R k40 40 w' w.heap.size (fun _ => True) v4_ r5 ∧ Below w.heap.size w w' := by
  have hu84 := Try.underlying84
  have HR0 := Aside0.mk hr0
  have HC0 := Aside0.mk hc0
  clear hr0 hc0
  have HB := Aside0.mk (Below.refl w.heap.size w)
  have H : (if a1 < 0 then (some (0,false,0,0,([] : List (S40)),false)) else (if a1 ≥ (l0.length : Int) then (some (0,false,0,0,([] : List (S40)),false)) else (if 0 ≤ a1 then (if a1 < (l0.length : Int) then (some (0,true,(rd_T40 l0 a1).f0,(rd_T40 l0 a1).f1,([] : List (S40)),false)) else (none)) else (none)))) = some (r1,r2,r3,r4,r5,r6) := h
  clear h
  by_cases c3 : a1 < 0
  · rw [if_pos c3] at H
    have c3b0 : decide (a1 < 0) = true := decide_eq_true c3
    clear c3
    simp only [Option.some.injEq,Prod.mk.injEq] at H
    obtain ⟨rfl,rfl,rfl,rfl,rfl,rfl⟩ := H
    go_enter Try.func112,Try.ntmps112
    go_wp2_with (first | ((with_reducible refine gate_dst (N := 4) rfl ?_);(try (refine gate_guard (by rfl) ?_;dsimp only));refine box_event ?hg (N := 4) ?hd (cs := #[.int .i64 0,.bool false,.int .i64 0,.int .i64 0,.slice none 0 0,.bool false]) (t := 84) ?hr ?_;(case hd => rfl);(case hg => rfl);(case hr => first | (go_simp;done) | (go_simp;rfl));intro gb904 hg w4 hbox hb;have n0_ := Aside0.mk (below_step (by repeat (first | (with_reducible first | exact HB.out | apply below_alloc | apply pw_below_drewN | apply below_drew1) | exact HB.out)) hb);have n1_ := Aside0.mk (hbox);have n2_ := Aside0.mk ((by rw [hg];exact (below_size (by repeat (first | (with_reducible first | exact HB.out | apply below_alloc | apply pw_below_drewN | apply below_drew1) | exact HB.out))) : w.heap.size ≤ gb904));have n3_ := Aside0.mk ((by rw [hg];exact (below_size (by repeat (first | (with_reducible first | exact HB.out | apply below_alloc | apply pw_below_drewN | apply below_drew1) | exact HB.out))) : w.heap.size ≤ gb904));clear HB;have HB := n0_;have BK904 := n1_;have GW904 := n2_;have GE904 := n3_;clear n0_ n1_ n2_ n3_;clear hb hbox hg;have hcz5_0 : w4.cell? ⟨gb904,0,none⟩ = some (.int .i64 0) := (blk_cell BK904.out 0).trans rfl;have hcz5_1 : w4.cell? ⟨gb904,1,none⟩ = some (.bool false) := (blk_cell BK904.out 1).trans rfl;have hcz5_2 : w4.cell? ⟨gb904,2,none⟩ = some (.int .i64 0) := (blk_cell BK904.out 2).trans rfl;have hcz5_3 : w4.cell? ⟨gb904,3,none⟩ = some (.int .i64 0) := (blk_cell BK904.out 3).trans rfl;have hcz5_4 : w4.cell? ⟨gb904,4,none⟩ = some (.slice none 0 0) := (blk_cell BK904.out 4).trans rfl;have hcz5_5 : w4.cell? ⟨gb904,5,none⟩ = some (.bool false) := (blk_cell BK904.out 5).trans rfl;have hfz5_0 := blk_frozen BK904.out 0;have hfz5_1 := blk_frozen BK904.out 1;have hfz5_2 := blk_frozen BK904.out 2;have hfz5_3 := blk_frozen BK904.out 3;have hfz5_4 := blk_frozen BK904.out 4;have hfz5_5 := blk_frozen BK904.out 5))
    refine bodyPost_ret (results_cell_row rfl _ _ gb904 84 #[.int .i64 0,.bool false,.int .i64 0,.int .i64 0,.slice none 0 0,.bool false] (0,0) _ rfl (by (with_reducible repeat (first | refine blk_drewN ?_ _ | refine blk_drew ?_ | refine blk_alloc ?_ _));refine blk_put (cs := #[.int .i64 0,.bool false,.int .i64 0,.int .i64 0,.slice none 0 0,.bool false]) ?_ 5 _ rfl;(with_reducible repeat (first | refine blk_drewN ?_ _ | refine blk_drew ?_ | refine blk_alloc ?_ _));refine blk_put (cs := #[.int .i64 0,.bool false,.int .i64 0,.int .i64 0,.slice none 0 0,.bool false]) ?_ 4 _ rfl;(with_reducible repeat (first | refine blk_drewN ?_ _ | refine blk_drew ?_ | refine blk_alloc ?_ _));refine blk_put (cs := #[.int .i64 0,.bool false,.int .i64 0,.int .i64 0,.slice none 0 0,.bool false]) ?_ 3 _ rfl;(with_reducible repeat (first | refine blk_drewN ?_ _ | refine blk_drew ?_ | refine blk_alloc ?_ _));refine blk_put (cs := #[.int .i64 0,.bool false,.int .i64 0,.int .i64 0,.slice none 0 0,.bool false]) ?_ 2 _ rfl;(with_reducible repeat (first | refine blk_drewN ?_ _ | refine blk_drew ?_ | refine blk_alloc ?_ _));refine blk_put (cs := #[.int .i64 0,.bool false,.int .i64 0,.int .i64 0,.slice none 0 0,.bool false]) ?_ 1 _ rfl;(with_reducible repeat (first | refine blk_drewN ?_ _ | refine blk_drew ?_ | refine blk_alloc ?_ _));refine blk_put (cs := #[.int .i64 0,.bool false,.int .i64 0,.int .i64 0,.slice none 0 0,.bool false]) ?_ 0 _ rfl;(with_reducible repeat (first | refine blk_drewN ?_ _ | refine blk_drew ?_ | refine blk_alloc ?_ _));exact BK904.out) Try.underlying84 rfl (by kernel_rfl)) rfl ?_
    exact ⟨_,by first | rfl | (simp [errW_none,errW_some] <;> rfl) | (simp [*,errW_none,errW_some] <;> rfl),by first | exact Kd.R_nil _ _ _ _ _ | exact Kd.N_nil _ _ _ _ _ | exact Kd.V_nil _ _ _ _ _ | exact Kd.Q_nil _ _ _ _ _ | exact Kd.S_nil _ _ _ _ _,by repeat (first | (with_reducible first | exact HB.out | apply below_alloc | apply pw_below_drewN | apply below_drew1 | refine below_set ?_ GE904.out) | exact HB.out)⟩
  · rw [if_neg c3] at H
    have c3b0 : decide (a1 < 0) = false := decide_eq_false c3
    clear c3
    by_cases c6 : a1 ≥ (l0.length : Int)
    · rw [if_pos c6] at H
      have c6b0 : decide ((l0.length : Int) ≤ a1) = true := decide_eq_true c6
      clear c6
      simp only [Option.some.injEq,Prod.mk.injEq] at H
      obtain ⟨rfl,rfl,rfl,rfl,rfl,rfl⟩ := H
      go_enter Try.func112,Try.ntmps112
      go_wp2_with (first | ((with_reducible refine gate_dst (N := 4) rfl ?_);(try (refine gate_guard (by rfl) ?_;dsimp only));refine box_event ?hg (N := 4) ?hd (cs := #[.int .i64 0,.bool false,.int .i64 0,.int .i64 0,.slice none 0 0,.bool false]) (t := 84) ?hr ?_;(case hd => rfl);(case hg => rfl);(case hr => first | (go_simp;done) | (go_simp;rfl));intro gb904 hg w7 hbox hb;have n0_ := Aside0.mk (below_step (by repeat (first | (with_reducible first | exact HB.out | apply below_alloc | apply pw_below_drewN | apply below_drew1) | exact HB.out)) hb);have n1_ := Aside0.mk (hbox);have n2_ := Aside0.mk ((by rw [hg];exact (below_size (by repeat (first | (with_reducible first | exact HB.out | apply below_alloc | apply pw_below_drewN | apply below_drew1) | exact HB.out))) : w.heap.size ≤ gb904));have n3_ := Aside0.mk ((by rw [hg];exact (below_size (by repeat (first | (with_reducible first | exact HB.out | apply below_alloc | apply pw_below_drewN | apply below_drew1) | exact HB.out))) : w.heap.size ≤ gb904));clear HB;have HB := n0_;have BK904 := n1_;have GW904 := n2_;have GE904 := n3_;clear n0_ n1_ n2_ n3_;clear hb hbox hg;have hcz8_0 : w7.cell? ⟨gb904,0,none⟩ = some (.int .i64 0) := (blk_cell BK904.out 0).trans rfl;have hcz8_1 : w7.cell? ⟨gb904,1,none⟩ = some (.bool false) := (blk_cell BK904.out 1).trans rfl;have hcz8_2 : w7.cell? ⟨gb904,2,none⟩ = some (.int .i64 0) := (blk_cell BK904.out 2).trans rfl;have hcz8_3 : w7.cell? ⟨gb904,3,none⟩ = some (.int .i64 0) := (blk_cell BK904.out 3).trans rfl;have hcz8_4 : w7.cell? ⟨gb904,4,none⟩ = some (.slice none 0 0) := (blk_cell BK904.out 4).trans rfl;have hcz8_5 : w7.cell? ⟨gb904,5,none⟩ = some (.bool false) := (blk_cell BK904.out 5).trans rfl;have hfz8_0 := blk_frozen BK904.out 0;have hfz8_1 := blk_frozen BK904.out 1;have hfz8_2 := blk_frozen BK904.out 2;have hfz8_3 := blk_frozen BK904.out 3;have hfz8_4 := blk_frozen BK904.out 4;have hfz8_5 := blk_frozen BK904.out 5))
      refine bodyPost_ret (results_cell_row rfl _ _ gb904 84 #[.int .i64 0,.bool false,.int .i64 0,.int .i64 0,.slice none 0 0,.bool false] (0,0) _ rfl (by (with_reducible repeat (first | refine blk_drewN ?_ _ | refine blk_drew ?_ | refine blk_alloc ?_ _));refine blk_put (cs := #[.int .i64 0,.bool false,.int .i64 0,.int .i64 0,.slice none 0 0,.bool false]) ?_ 5 _ rfl;(with_reducible repeat (first | refine blk_drewN ?_ _ | refine blk_drew ?_ | refine blk_alloc ?_ _));refine blk_put (cs := #[.int .i64 0,.bool false,.int .i64 0,.int .i64 0,.slice none 0 0,.bool false]) ?_ 4 _ rfl;(with_reducible repeat (first | refine blk_drewN ?_ _ | refine blk_drew ?_ | refine blk_alloc ?_ _));refine blk_put (cs := #[.int .i64 0,.bool false,.int .i64 0,.int .i64 0,.slice none 0 0,.bool false]) ?_ 3 _ rfl;(with_reducible repeat (first | refine blk_drewN ?_ _ | refine blk_drew ?_ | refine blk_alloc ?_ _));refine blk_put (cs := #[.int .i64 0,.bool false,.int .i64 0,.int .i64 0,.slice none 0 0,.bool false]) ?_ 2 _ rfl;(with_reducible repeat (first | refine blk_drewN ?_ _ | refine blk_drew ?_ | refine blk_alloc ?_ _));refine blk_put (cs := #[.int .i64 0,.bool false,.int .i64 0,.int .i64 0,.slice none 0 0,.bool false]) ?_ 1 _ rfl;(with_reducible repeat (first | refine blk_drewN ?_ _ | refine blk_drew ?_ | refine blk_alloc ?_ _));refine blk_put (cs := #[.int .i64 0,.bool false,.int .i64 0,.int .i64 0,.slice none 0 0,.bool false]) ?_ 0 _ rfl;(with_reducible repeat (first | refine blk_drewN ?_ _ | refine blk_drew ?_ | refine blk_alloc ?_ _));exact BK904.out) Try.underlying84 rfl (by kernel_rfl)) rfl ?_
      exact ⟨_,by first | rfl | (simp [errW_none,errW_some] <;> rfl) | (simp [*,errW_none,errW_some] <;> rfl),by first | exact Kd.R_nil _ _ _ _ _ | exact Kd.N_nil _ _ _ _ _ | exact Kd.V_nil _ _ _ _ _ | exact Kd.Q_nil _ _ _ _ _ | exact Kd.S_nil _ _ _ _ _,by repeat (first | (with_reducible first | exact HB.out | apply below_alloc | apply pw_below_drewN | apply below_drew1 | refine below_set ?_ GE904.out) | exact HB.out)⟩
    · rw [if_neg c6] at H
      have c6b0 : decide ((l0.length : Int) ≤ a1) = false := decide_eq_false c6
      clear c6
      by_cases c9 : 0 ≤ a1
      · rw [if_pos c9] at H
        have c9b0 : decide (0 ≤ a1) = true := decide_eq_true c9
        clear c9
        by_cases c10 : a1 < (l0.length : Int)
        · rw [if_pos c10] at H
          have c10b0 : decide (a1 < (l0.length : Int)) = true := decide_eq_true c10
          clear c10
          simp only [Option.some.injEq,Prod.mk.injEq] at H
          obtain ⟨rfl,rfl,rfl,rfl,rfl,rfl⟩ := H
          go_enter Try.func112,Try.ntmps112
          try go_wp2_with (first | ((with_reducible refine gate_dst (N := 4) rfl ?_);(try (refine gate_guard (by rfl) ?_;dsimp only));refine box_event ?hg (N := 4) ?hd (cs := #[.int .i64 0,.bool false,.int .i64 0,.int .i64 0,.slice none 0 0,.bool false]) (t := 84) ?hr ?_;(case hd => rfl);(case hg => rfl);(case hr => first | (go_simp;done) | (go_simp;rfl));intro gb904 hg w11 hbox hb;have n0_ := Aside0.mk (below_step (by repeat (first | (with_reducible first | exact HB.out | apply below_alloc | apply pw_below_drewN | apply below_drew1) | exact HB.out)) hb);have n1_ := Aside0.mk (hbox);have n2_ := Aside0.mk ((by rw [hg];exact (below_size (by repeat (first | (with_reducible first | exact HB.out | apply below_alloc | apply pw_below_drewN | apply below_drew1) | exact HB.out))) : w.heap.size ≤ gb904));have n3_ := Aside0.mk ((by rw [hg];exact (below_size (by repeat (first | (with_reducible first | exact HB.out | apply below_alloc | apply pw_below_drewN | apply below_drew1) | exact HB.out))) : w.heap.size ≤ gb904));clear HB;have HB := n0_;have BK904 := n1_;have GW904 := n2_;have GE904 := n3_;clear n0_ n1_ n2_ n3_;clear hb hbox hg))
          have n0_ := Aside0.mk (blk_drew BK904.out)
          have n1_ := Aside0.mk (below_drew1 HB.out)
          clear BK904
          clear HB
          have BK904 := n0_
          have HB := n1_
          clear n0_ n1_
          have p905 : 0 ≤ (a1 : Int) := of_decide_eq_true (by first | (with_reducible assumption) | assumption)
          have q905 : a1 < (l0.length : Int) := of_decide_eq_true (by first | (with_reducible assumption) | assumption)
          obtain ⟨ad905,e905,hx905_0,hx905_1⟩ := at_T40 HR0.out a1 p905 q905
          have hw905_1 := hx905_1
          have hw905_0 := hx905_0
          cases e905
          replace hx905_0 := (HB.out.cell (World.block_lt_of_cell? w _ hx905_0)).trans hx905_0
          replace hx905_1 := (HB.out.cell (World.block_lt_of_cell? w _ hx905_1)).trans hx905_1
          replace p905 := eq_true p905
          replace q905 := eq_true q905
          have p906 : 0 ≤ (a1 : Int) := of_decide_eq_true (by first | (with_reducible assumption) | assumption)
          have q906 : a1 < (l0.length : Int) := of_decide_eq_true (by first | (with_reducible assumption) | assumption)
          obtain ⟨ad906,e906,hx906_0,hx906_1⟩ := at_T40 HR0.out a1 p906 q906
          have hw906_1 := hx906_1
          have hw906_0 := hx906_0
          obtain rfl : ad905 = ad906 := (by injection e906)
          replace hx906_0 := (HB.out.cell (World.block_lt_of_cell? w _ hx906_0)).trans hx906_0
          replace hx906_1 := (HB.out.cell (World.block_lt_of_cell? w _ hx906_1)).trans hx906_1
          replace p906 := eq_true p906
          replace q906 := eq_true q906
          refine start_ (n := 12) (S := fun w' => w'.cell? (ad905.add ((a1).toNat * 2)) = some (.int .i64 ((rd_T40 l0 a1).f0)) ∧ w'.cell? ⟨(ad905.add ((a1).toNat * 2)).block,(ad905.add ((a1).toNat * 2)).off + 1,none⟩ = some (.int .i64 ((rd_T40 l0 a1).f1)) ∧ w'.cell? (ad905.add ((a1).toNat * 2)) = some (.int .i64 ((rd_T40 l0 a1).f0)) ∧ w'.cell? ⟨(ad905.add ((a1).toNat * 2)).block,(ad905.add ((a1).toNat * 2)).off + 1,none⟩ = some (.int .i64 ((rd_T40 l0 a1).f1))) (ds := []) #[false,false,false,false,false,false,false,false,false,false,false,false] (by kernel_rfl) rfl rfl ⟨((HB.out.cell (World.block_lt_of_cell? w _ hw905_0)).trans hw905_0),((HB.out.cell (World.block_lt_of_cell? w _ hw905_1)).trans hw905_1),((HB.out.cell (World.block_lt_of_cell? w _ hw906_0)).trans hw906_0),((HB.out.cell (World.block_lt_of_cell? w _ hw906_1)).trans hw906_1)⟩ (fun hHeld => ?_);refine with_tabW boscagelaw18_pick.tab3 boscagelaw18_pick.bits3 (fun HT_ HW_ => ?_)
          generalize w11.drew = w12 at BK904 HB hx905_0 hx905_1 hx906_0 hx906_1 hHeld ⊢
          refine pure_ (i := 0) (N := some 14) (v := ?_) (a' := ?_) #[true,false,false,false,false,false,false,false,false,false,false,false] rfl rfl (any_of HT_.out (by kernel_rfl)) (fun _ _ _ h => h) (Or.inl ⟨by rfl,?_⟩) ?_ ?_
          rotate_left
          · intro w'
            go_simp
            with_reducible rfl
          rotate_left
          · simp only [Act.put,List.setIfInBounds_toArray,List.set_cons_zero,List.set_cons_succ,i64_w,i32_w]
            rfl
          refine pure_ (i := 1) (N := some 15) (v := ?_) (a' := ?_) #[true,true,false,false,false,false,false,false,false,false,false,false] rfl rfl (any_of HT_.out (by kernel_rfl)) (fun _ _ _ h => h) (Or.inl ⟨by rfl,?_⟩) ?_ ?_
          rotate_left
          · intro w'
            go_simp
            with_reducible rfl
          rotate_left
          · simp only [Act.put,List.setIfInBounds_toArray,List.set_cons_zero,List.set_cons_succ,i64_w,i32_w]
            rfl
          refine pure_ (i := 2) (N := some 16) (v := ?_) (a' := ?_) #[true,true,true,false,false,false,false,false,false,false,false,false] rfl rfl (any_of HT_.out (by kernel_rfl)) (fun _ _ _ h => h) (Or.inl ⟨by rfl,?_⟩) ?_ ?_
          rotate_left
          · intro w'
            go_simp
            with_reducible rfl
          rotate_left
          · simp only [Act.put,List.setIfInBounds_toArray,List.set_cons_zero,List.set_cons_succ,i64_w,i32_w]
            rfl
          refine pure_ (i := 3) (N := some 17) (v := ?_) (a' := ?_) #[true,true,true,true,false,false,false,false,false,false,false,false] rfl rfl (any_of HT_.out (by kernel_rfl)) (fun _ _ _ h => h) (Or.inl ⟨by rfl,?_⟩) ?_ ?_
          rotate_left
          · intro w'
            go_simp
            with_reducible rfl
          rotate_left
          · simp only [Act.put,List.setIfInBounds_toArray,List.set_cons_zero,List.set_cons_succ,i64_w,i32_w]
            rfl
          refine pure_ (i := 5) (N := some 19) (v := ?_) (a' := ?_) #[true,true,true,true,false,true,false,false,false,false,false,false] rfl rfl (any_of HT_.out (by kernel_rfl)) (fun _ _ _ h => h) (Or.inl ⟨by rfl,?_⟩) ?_ ?_
          rotate_left
          · intro w'
            go_simp
            with_reducible rfl
          rotate_left
          · simp only [Act.put,List.setIfInBounds_toArray,List.set_cons_zero,List.set_cons_succ,i64_w,i32_w]
            rfl
          refine pure_ (i := 6) (N := some 20) (v := ?_) (a' := ?_) #[true,true,true,true,false,true,true,false,false,false,false,false] rfl rfl (any_of HT_.out (by kernel_rfl)) (fun _ _ _ h => h) (Or.inl ⟨by rfl,?_⟩) ?_ ?_
          rotate_left
          · intro w'
            go_simp
            with_reducible rfl
          rotate_left
          · simp only [Act.put,List.setIfInBounds_toArray,List.set_cons_zero,List.set_cons_succ,i64_w,i32_w]
            rfl
          refine pure_ (i := 7) (N := some 21) (v := ?_) (a' := ?_) #[true,true,true,true,false,true,true,true,false,false,false,false] rfl rfl (any_of HT_.out (by kernel_rfl)) (fun _ _ _ h => h) (Or.inl ⟨by rfl,?_⟩) ?_ ?_
          rotate_left
          · intro w'
            go_simp
            with_reducible rfl
          rotate_left
          · simp only [Act.put,List.setIfInBounds_toArray,List.set_cons_zero,List.set_cons_succ,i64_w,i32_w]
            rfl
          refine pure_ (i := 8) (N := some 22) (v := ?_) (a' := ?_) #[true,true,true,true,false,true,true,true,true,false,false,false] rfl rfl (any_of HT_.out (by kernel_rfl)) (fun _ _ _ h => h) (Or.inl ⟨by rfl,?_⟩) ?_ ?_
          rotate_left
          · intro w'
            go_simp
            with_reducible rfl
          rotate_left
          · simp only [Act.put,List.setIfInBounds_toArray,List.set_cons_zero,List.set_cons_succ,i64_w,i32_w]
            rfl
          refine take_ (i := 4) (N := some 18) (v := ?_) (a' := ?_) #[true,true,true,true,true,true,true,true,true,false,false,false] rfl rfl (take_ofW HT_.out HW_.out (by kernel_rfl)) (fun _ _ _ h => h) (Or.inl ⟨by rfl,?_⟩) hHeld ?_ ?_
          rotate_left
          · rintro w' ⟨s0,s1,s2,s3⟩
            go_simp
            with_reducible rfl
          rotate_left
          · simp only [Act.put,List.setIfInBounds_toArray,List.set_cons_zero,List.set_cons_succ,i64_w,i32_w]
            rfl
          refine take_ (i := 9) (N := some 23) (v := ?_) (a' := ?_) #[true,true,true,true,true,true,true,true,true,true,false,false] rfl rfl (take_ofW HT_.out HW_.out (by kernel_rfl)) (fun _ _ _ h => h) (Or.inl ⟨by rfl,?_⟩) hHeld ?_ ?_
          rotate_left
          · rintro w' ⟨s0,s1,s2,s3⟩
            go_simp
            with_reducible rfl
          rotate_left
          · simp only [Act.put,List.setIfInBounds_toArray,List.set_cons_zero,List.set_cons_succ,i64_w,i32_w]
            rfl
          refine pure_ (i := 10) (N := some 24) (v := ?_) (a' := ?_) #[true,true,true,true,true,true,true,true,true,true,true,false] rfl rfl (any_of HT_.out (by kernel_rfl)) (fun _ _ _ h => h) (Or.inl ⟨by rfl,?_⟩) ?_ ?_
          rotate_left
          · intro w'
            go_simp
            with_reducible rfl
          rotate_left
          · simp only [Act.put,List.setIfInBounds_toArray,List.set_cons_zero,List.set_cons_succ,i64_w,i32_w]
            rfl
          refine one_ (i := 11) (N := none) #[true,true,true,true,true,true,true,true,true,true,true,true] rfl rfl (one_of HT_.out (by kernel_rfl)) (by decide) (fun K hK => ?_)
          have hs13 : w12.cell? ⟨gb904,0,none⟩ = some (.int .i64 0) := (blk_cell BK904.out 0).trans rfl
          have hfs13 := blk_frozen BK904.out 0
          have hs14 : w12.cell? ⟨gb904,1,none⟩ = some (.bool false) := (blk_cell BK904.out 1).trans rfl
          have hfs14 := blk_frozen BK904.out 1
          have hs15 : w12.cell? ⟨gb904,2,none⟩ = some (.int .i64 0) := (blk_cell BK904.out 2).trans rfl
          have hfs15 := blk_frozen BK904.out 2
          have hs16 : w12.cell? ⟨gb904,3,none⟩ = some (.int .i64 0) := (blk_cell BK904.out 3).trans rfl
          have hfs16 := blk_frozen BK904.out 3
          have hs17 : w12.cell? ⟨gb904,4,none⟩ = some (.slice none 0 0) := (blk_cell BK904.out 4).trans rfl
          have hfs17 := blk_frozen BK904.out 4
          have hs18 : w12.cell? ⟨gb904,5,none⟩ = some (.bool false) := (blk_cell BK904.out 5).trans rfl
          have hfs18 := blk_frozen BK904.out 5
          refine skip_ (w1 := ?_) (by rfl) rfl ?_ ?_
          rotate_left
          · go_simp
            rfl
          refine hK.out _ _ ⟨((cell_far (p := ⟨gb904,_,none⟩) (by first | exact Nat.ne_of_lt (Nat.lt_of_lt_of_le (by have := World.block_lt_of_cell? _ _ hw905_0;first | rwa [add_block] at this | exact this) GW904.out) | (rw [add_block];exact Nat.ne_of_lt (Nat.lt_of_lt_of_le (by have := World.block_lt_of_cell? _ _ hw905_0;first | rwa [add_block] at this | exact this) GW904.out)) | (show (Addr.add _ _).block ≠ _;rw [add_block];exact Nat.ne_of_lt (Nat.lt_of_lt_of_le (by have := World.block_lt_of_cell? _ _ hw905_0;first | rwa [add_block] at this | exact this) GW904.out)) | (dsimp only;exact Nat.ne_of_lt (Nat.lt_of_lt_of_le (by have := World.block_lt_of_cell? _ _ hw905_0;first | rwa [add_block] at this | exact this) GW904.out))) _).trans (((cell_far (p := ⟨gb904,_,none⟩) (by first | exact Nat.ne_of_lt (Nat.lt_of_lt_of_le (by have := World.block_lt_of_cell? _ _ hw905_0;first | rwa [add_block] at this | exact this) GW904.out) | (rw [add_block];exact Nat.ne_of_lt (Nat.lt_of_lt_of_le (by have := World.block_lt_of_cell? _ _ hw905_0;first | rwa [add_block] at this | exact this) GW904.out)) | (show (Addr.add _ _).block ≠ _;rw [add_block];exact Nat.ne_of_lt (Nat.lt_of_lt_of_le (by have := World.block_lt_of_cell? _ _ hw905_0;first | rwa [add_block] at this | exact this) GW904.out)) | (dsimp only;exact Nat.ne_of_lt (Nat.lt_of_lt_of_le (by have := World.block_lt_of_cell? _ _ hw905_0;first | rwa [add_block] at this | exact this) GW904.out))) _).trans (((cell_far (p := ⟨gb904,_,none⟩) (by first | exact Nat.ne_of_lt (Nat.lt_of_lt_of_le (by have := World.block_lt_of_cell? _ _ hw905_0;first | rwa [add_block] at this | exact this) GW904.out) | (rw [add_block];exact Nat.ne_of_lt (Nat.lt_of_lt_of_le (by have := World.block_lt_of_cell? _ _ hw905_0;first | rwa [add_block] at this | exact this) GW904.out)) | (show (Addr.add _ _).block ≠ _;rw [add_block];exact Nat.ne_of_lt (Nat.lt_of_lt_of_le (by have := World.block_lt_of_cell? _ _ hw905_0;first | rwa [add_block] at this | exact this) GW904.out)) | (dsimp only;exact Nat.ne_of_lt (Nat.lt_of_lt_of_le (by have := World.block_lt_of_cell? _ _ hw905_0;first | rwa [add_block] at this | exact this) GW904.out))) _).trans (((cell_far (p := ⟨gb904,_,none⟩) (by first | exact Nat.ne_of_lt (Nat.lt_of_lt_of_le (by have := World.block_lt_of_cell? _ _ hw905_0;first | rwa [add_block] at this | exact this) GW904.out) | (rw [add_block];exact Nat.ne_of_lt (Nat.lt_of_lt_of_le (by have := World.block_lt_of_cell? _ _ hw905_0;first | rwa [add_block] at this | exact this) GW904.out)) | (show (Addr.add _ _).block ≠ _;rw [add_block];exact Nat.ne_of_lt (Nat.lt_of_lt_of_le (by have := World.block_lt_of_cell? _ _ hw905_0;first | rwa [add_block] at this | exact this) GW904.out)) | (dsimp only;exact Nat.ne_of_lt (Nat.lt_of_lt_of_le (by have := World.block_lt_of_cell? _ _ hw905_0;first | rwa [add_block] at this | exact this) GW904.out))) _).trans (((cell_far (p := ⟨gb904,_,none⟩) (by first | exact Nat.ne_of_lt (Nat.lt_of_lt_of_le (by have := World.block_lt_of_cell? _ _ hw905_0;first | rwa [add_block] at this | exact this) GW904.out) | (rw [add_block];exact Nat.ne_of_lt (Nat.lt_of_lt_of_le (by have := World.block_lt_of_cell? _ _ hw905_0;first | rwa [add_block] at this | exact this) GW904.out)) | (show (Addr.add _ _).block ≠ _;rw [add_block];exact Nat.ne_of_lt (Nat.lt_of_lt_of_le (by have := World.block_lt_of_cell? _ _ hw905_0;first | rwa [add_block] at this | exact this) GW904.out)) | (dsimp only;exact Nat.ne_of_lt (Nat.lt_of_lt_of_le (by have := World.block_lt_of_cell? _ _ hw905_0;first | rwa [add_block] at this | exact this) GW904.out))) _).trans (((cell_far (p := ⟨gb904,_,none⟩) (by first | exact Nat.ne_of_lt (Nat.lt_of_lt_of_le (by have := World.block_lt_of_cell? _ _ hw905_0;first | rwa [add_block] at this | exact this) GW904.out) | (rw [add_block];exact Nat.ne_of_lt (Nat.lt_of_lt_of_le (by have := World.block_lt_of_cell? _ _ hw905_0;first | rwa [add_block] at this | exact this) GW904.out)) | (show (Addr.add _ _).block ≠ _;rw [add_block];exact Nat.ne_of_lt (Nat.lt_of_lt_of_le (by have := World.block_lt_of_cell? _ _ hw905_0;first | rwa [add_block] at this | exact this) GW904.out)) | (dsimp only;exact Nat.ne_of_lt (Nat.lt_of_lt_of_le (by have := World.block_lt_of_cell? _ _ hw905_0;first | rwa [add_block] at this | exact this) GW904.out))) _).trans (hHeld.1)))))))))))),((cell_far (p := ⟨gb904,_,none⟩) (by first | exact Nat.ne_of_lt (Nat.lt_of_lt_of_le (by have := World.block_lt_of_cell? _ _ hw905_1;first | rwa [add_block] at this | exact this) GW904.out) | (rw [add_block];exact Nat.ne_of_lt (Nat.lt_of_lt_of_le (by have := World.block_lt_of_cell? _ _ hw905_1;first | rwa [add_block] at this | exact this) GW904.out)) | (show (Addr.add _ _).block ≠ _;rw [add_block];exact Nat.ne_of_lt (Nat.lt_of_lt_of_le (by have := World.block_lt_of_cell? _ _ hw905_1;first | rwa [add_block] at this | exact this) GW904.out)) | (dsimp only;exact Nat.ne_of_lt (Nat.lt_of_lt_of_le (by have := World.block_lt_of_cell? _ _ hw905_1;first | rwa [add_block] at this | exact this) GW904.out))) _).trans (((cell_far (p := ⟨gb904,_,none⟩) (by first | exact Nat.ne_of_lt (Nat.lt_of_lt_of_le (by have := World.block_lt_of_cell? _ _ hw905_1;first | rwa [add_block] at this | exact this) GW904.out) | (rw [add_block];exact Nat.ne_of_lt (Nat.lt_of_lt_of_le (by have := World.block_lt_of_cell? _ _ hw905_1;first | rwa [add_block] at this | exact this) GW904.out)) | (show (Addr.add _ _).block ≠ _;rw [add_block];exact Nat.ne_of_lt (Nat.lt_of_lt_of_le (by have := World.block_lt_of_cell? _ _ hw905_1;first | rwa [add_block] at this | exact this) GW904.out)) | (dsimp only;exact Nat.ne_of_lt (Nat.lt_of_lt_of_le (by have := World.block_lt_of_cell? _ _ hw905_1;first | rwa [add_block] at this | exact this) GW904.out))) _).trans (((cell_far (p := ⟨gb904,_,none⟩) (by first | exact Nat.ne_of_lt (Nat.lt_of_lt_of_le (by have := World.block_lt_of_cell? _ _ hw905_1;first | rwa [add_block] at this | exact this) GW904.out) | (rw [add_block];exact Nat.ne_of_lt (Nat.lt_of_lt_of_le (by have := World.block_lt_of_cell? _ _ hw905_1;first | rwa [add_block] at this | exact this) GW904.out)) | (show (Addr.add _ _).block ≠ _;rw [add_block];exact Nat.ne_of_lt (Nat.lt_of_lt_of_le (by have := World.block_lt_of_cell? _ _ hw905_1;first | rwa [add_block] at this | exact this) GW904.out)) | (dsimp only;exact Nat.ne_of_lt (Nat.lt_of_lt_of_le (by have := World.block_lt_of_cell? _ _ hw905_1;first | rwa [add_block] at this | exact this) GW904.out))) _).trans (((cell_far (p := ⟨gb904,_,none⟩) (by first | exact Nat.ne_of_lt (Nat.lt_of_lt_of_le (by have := World.block_lt_of_cell? _ _ hw905_1;first | rwa [add_block] at this | exact this) GW904.out) | (rw [add_block];exact Nat.ne_of_lt (Nat.lt_of_lt_of_le (by have := World.block_lt_of_cell? _ _ hw905_1;first | rwa [add_block] at this | exact this) GW904.out)) | (show (Addr.add _ _).block ≠ _;rw [add_block];exact Nat.ne_of_lt (Nat.lt_of_lt_of_le (by have := World.block_lt_of_cell? _ _ hw905_1;first | rwa [add_block] at this | exact this) GW904.out)) | (dsimp only;exact Nat.ne_of_lt (Nat.lt_of_lt_of_le (by have := World.block_lt_of_cell? _ _ hw905_1;first | rwa [add_block] at this | exact this) GW904.out))) _).trans (((cell_far (p := ⟨gb904,_,none⟩) (by first | exact Nat.ne_of_lt (Nat.lt_of_lt_of_le (by have := World.block_lt_of_cell? _ _ hw905_1;first | rwa [add_block] at this | exact this) GW904.out) | (rw [add_block];exact Nat.ne_of_lt (Nat.lt_of_lt_of_le (by have := World.block_lt_of_cell? _ _ hw905_1;first | rwa [add_block] at this | exact this) GW904.out)) | (show (Addr.add _ _).block ≠ _;rw [add_block];exact Nat.ne_of_lt (Nat.lt_of_lt_of_le (by have := World.block_lt_of_cell? _ _ hw905_1;first | rwa [add_block] at this | exact this) GW904.out)) | (dsimp only;exact Nat.ne_of_lt (Nat.lt_of_lt_of_le (by have := World.block_lt_of_cell? _ _ hw905_1;first | rwa [add_block] at this | exact this) GW904.out))) _).trans (((cell_far (p := ⟨gb904,_,none⟩) (by first | exact Nat.ne_of_lt (Nat.lt_of_lt_of_le (by have := World.block_lt_of_cell? _ _ hw905_1;first | rwa [add_block] at this | exact this) GW904.out) | (rw [add_block];exact Nat.ne_of_lt (Nat.lt_of_lt_of_le (by have := World.block_lt_of_cell? _ _ hw905_1;first | rwa [add_block] at this | exact this) GW904.out)) | (show (Addr.add _ _).block ≠ _;rw [add_block];exact Nat.ne_of_lt (Nat.lt_of_lt_of_le (by have := World.block_lt_of_cell? _ _ hw905_1;first | rwa [add_block] at this | exact this) GW904.out)) | (dsimp only;exact Nat.ne_of_lt (Nat.lt_of_lt_of_le (by have := World.block_lt_of_cell? _ _ hw905_1;first | rwa [add_block] at this | exact this) GW904.out))) _).trans (hHeld.2.1)))))))))))),((cell_far (p := ⟨gb904,_,none⟩) (by first | exact Nat.ne_of_lt (Nat.lt_of_lt_of_le (by have := World.block_lt_of_cell? _ _ hw906_0;first | rwa [add_block] at this | exact this) GW904.out) | (rw [add_block];exact Nat.ne_of_lt (Nat.lt_of_lt_of_le (by have := World.block_lt_of_cell? _ _ hw906_0;first | rwa [add_block] at this | exact this) GW904.out)) | (show (Addr.add _ _).block ≠ _;rw [add_block];exact Nat.ne_of_lt (Nat.lt_of_lt_of_le (by have := World.block_lt_of_cell? _ _ hw906_0;first | rwa [add_block] at this | exact this) GW904.out)) | (dsimp only;exact Nat.ne_of_lt (Nat.lt_of_lt_of_le (by have := World.block_lt_of_cell? _ _ hw906_0;first | rwa [add_block] at this | exact this) GW904.out))) _).trans (((cell_far (p := ⟨gb904,_,none⟩) (by first | exact Nat.ne_of_lt (Nat.lt_of_lt_of_le (by have := World.block_lt_of_cell? _ _ hw906_0;first | rwa [add_block] at this | exact this) GW904.out) | (rw [add_block];exact Nat.ne_of_lt (Nat.lt_of_lt_of_le (by have := World.block_lt_of_cell? _ _ hw906_0;first | rwa [add_block] at this | exact this) GW904.out)) | (show (Addr.add _ _).block ≠ _;rw [add_block];exact Nat.ne_of_lt (Nat.lt_of_lt_of_le (by have := World.block_lt_of_cell? _ _ hw906_0;first | rwa [add_block] at this | exact this) GW904.out)) | (dsimp only;exact Nat.ne_of_lt (Nat.lt_of_lt_of_le (by have := World.block_lt_of_cell? _ _ hw906_0;first | rwa [add_block] at this | exact this) GW904.out))) _).trans (((cell_far (p := ⟨gb904,_,none⟩) (by first | exact Nat.ne_of_lt (Nat.lt_of_lt_of_le (by have := World.block_lt_of_cell? _ _ hw906_0;first | rwa [add_block] at this | exact this) GW904.out) | (rw [add_block];exact Nat.ne_of_lt (Nat.lt_of_lt_of_le (by have := World.block_lt_of_cell? _ _ hw906_0;first | rwa [add_block] at this | exact this) GW904.out)) | (show (Addr.add _ _).block ≠ _;rw [add_block];exact Nat.ne_of_lt (Nat.lt_of_lt_of_le (by have := World.block_lt_of_cell? _ _ hw906_0;first | rwa [add_block] at this | exact this) GW904.out)) | (dsimp only;exact Nat.ne_of_lt (Nat.lt_of_lt_of_le (by have := World.block_lt_of_cell? _ _ hw906_0;first | rwa [add_block] at this | exact this) GW904.out))) _).trans (((cell_far (p := ⟨gb904,_,none⟩) (by first | exact Nat.ne_of_lt (Nat.lt_of_lt_of_le (by have := World.block_lt_of_cell? _ _ hw906_0;first | rwa [add_block] at this | exact this) GW904.out) | (rw [add_block];exact Nat.ne_of_lt (Nat.lt_of_lt_of_le (by have := World.block_lt_of_cell? _ _ hw906_0;first | rwa [add_block] at this | exact this) GW904.out)) | (show (Addr.add _ _).block ≠ _;rw [add_block];exact Nat.ne_of_lt (Nat.lt_of_lt_of_le (by have := World.block_lt_of_cell? _ _ hw906_0;first | rwa [add_block] at this | exact this) GW904.out)) | (dsimp only;exact Nat.ne_of_lt (Nat.lt_of_lt_of_le (by have := World.block_lt_of_cell? _ _ hw906_0;first | rwa [add_block] at this | exact this) GW904.out))) _).trans (((cell_far (p := ⟨gb904,_,none⟩) (by first | exact Nat.ne_of_lt (Nat.lt_of_lt_of_le (by have := World.block_lt_of_cell? _ _ hw906_0;first | rwa [add_block] at this | exact this) GW904.out) | (rw [add_block];exact Nat.ne_of_lt (Nat.lt_of_lt_of_le (by have := World.block_lt_of_cell? _ _ hw906_0;first | rwa [add_block] at this | exact this) GW904.out)) | (show (Addr.add _ _).block ≠ _;rw [add_block];exact Nat.ne_of_lt (Nat.lt_of_lt_of_le (by have := World.block_lt_of_cell? _ _ hw906_0;first | rwa [add_block] at this | exact this) GW904.out)) | (dsimp only;exact Nat.ne_of_lt (Nat.lt_of_lt_of_le (by have := World.block_lt_of_cell? _ _ hw906_0;first | rwa [add_block] at this | exact this) GW904.out))) _).trans (((cell_far (p := ⟨gb904,_,none⟩) (by first | exact Nat.ne_of_lt (Nat.lt_of_lt_of_le (by have := World.block_lt_of_cell? _ _ hw906_0;first | rwa [add_block] at this | exact this) GW904.out) | (rw [add_block];exact Nat.ne_of_lt (Nat.lt_of_lt_of_le (by have := World.block_lt_of_cell? _ _ hw906_0;first | rwa [add_block] at this | exact this) GW904.out)) | (show (Addr.add _ _).block ≠ _;rw [add_block];exact Nat.ne_of_lt (Nat.lt_of_lt_of_le (by have := World.block_lt_of_cell? _ _ hw906_0;first | rwa [add_block] at this | exact this) GW904.out)) | (dsimp only;exact Nat.ne_of_lt (Nat.lt_of_lt_of_le (by have := World.block_lt_of_cell? _ _ hw906_0;first | rwa [add_block] at this | exact this) GW904.out))) _).trans (hHeld.2.2.1)))))))))))),((cell_far (p := ⟨gb904,_,none⟩) (by first | exact Nat.ne_of_lt (Nat.lt_of_lt_of_le (by have := World.block_lt_of_cell? _ _ hw906_1;first | rwa [add_block] at this | exact this) GW904.out) | (rw [add_block];exact Nat.ne_of_lt (Nat.lt_of_lt_of_le (by have := World.block_lt_of_cell? _ _ hw906_1;first | rwa [add_block] at this | exact this) GW904.out)) | (show (Addr.add _ _).block ≠ _;rw [add_block];exact Nat.ne_of_lt (Nat.lt_of_lt_of_le (by have := World.block_lt_of_cell? _ _ hw906_1;first | rwa [add_block] at this | exact this) GW904.out)) | (dsimp only;exact Nat.ne_of_lt (Nat.lt_of_lt_of_le (by have := World.block_lt_of_cell? _ _ hw906_1;first | rwa [add_block] at this | exact this) GW904.out))) _).trans (((cell_far (p := ⟨gb904,_,none⟩) (by first | exact Nat.ne_of_lt (Nat.lt_of_lt_of_le (by have := World.block_lt_of_cell? _ _ hw906_1;first | rwa [add_block] at this | exact this) GW904.out) | (rw [add_block];exact Nat.ne_of_lt (Nat.lt_of_lt_of_le (by have := World.block_lt_of_cell? _ _ hw906_1;first | rwa [add_block] at this | exact this) GW904.out)) | (show (Addr.add _ _).block ≠ _;rw [add_block];exact Nat.ne_of_lt (Nat.lt_of_lt_of_le (by have := World.block_lt_of_cell? _ _ hw906_1;first | rwa [add_block] at this | exact this) GW904.out)) | (dsimp only;exact Nat.ne_of_lt (Nat.lt_of_lt_of_le (by have := World.block_lt_of_cell? _ _ hw906_1;first | rwa [add_block] at this | exact this) GW904.out))) _).trans (((cell_far (p := ⟨gb904,_,none⟩) (by first | exact Nat.ne_of_lt (Nat.lt_of_lt_of_le (by have := World.block_lt_of_cell? _ _ hw906_1;first | rwa [add_block] at this | exact this) GW904.out) | (rw [add_block];exact Nat.ne_of_lt (Nat.lt_of_lt_of_le (by have := World.block_lt_of_cell? _ _ hw906_1;first | rwa [add_block] at this | exact this) GW904.out)) | (show (Addr.add _ _).block ≠ _;rw [add_block];exact Nat.ne_of_lt (Nat.lt_of_lt_of_le (by have := World.block_lt_of_cell? _ _ hw906_1;first | rwa [add_block] at this | exact this) GW904.out)) | (dsimp only;exact Nat.ne_of_lt (Nat.lt_of_lt_of_le (by have := World.block_lt_of_cell? _ _ hw906_1;first | rwa [add_block] at this | exact this) GW904.out))) _).trans (((cell_far (p := ⟨gb904,_,none⟩) (by first | exact Nat.ne_of_lt (Nat.lt_of_lt_of_le (by have := World.block_lt_of_cell? _ _ hw906_1;first | rwa [add_block] at this | exact this) GW904.out) | (rw [add_block];exact Nat.ne_of_lt (Nat.lt_of_lt_of_le (by have := World.block_lt_of_cell? _ _ hw906_1;first | rwa [add_block] at this | exact this) GW904.out)) | (show (Addr.add _ _).block ≠ _;rw [add_block];exact Nat.ne_of_lt (Nat.lt_of_lt_of_le (by have := World.block_lt_of_cell? _ _ hw906_1;first | rwa [add_block] at this | exact this) GW904.out)) | (dsimp only;exact Nat.ne_of_lt (Nat.lt_of_lt_of_le (by have := World.block_lt_of_cell? _ _ hw906_1;first | rwa [add_block] at this | exact this) GW904.out))) _).trans (((cell_far (p := ⟨gb904,_,none⟩) (by first | exact Nat.ne_of_lt (Nat.lt_of_lt_of_le (by have := World.block_lt_of_cell? _ _ hw906_1;first | rwa [add_block] at this | exact this) GW904.out) | (rw [add_block];exact Nat.ne_of_lt (Nat.lt_of_lt_of_le (by have := World.block_lt_of_cell? _ _ hw906_1;first | rwa [add_block] at this | exact this) GW904.out)) | (show (Addr.add _ _).block ≠ _;rw [add_block];exact Nat.ne_of_lt (Nat.lt_of_lt_of_le (by have := World.block_lt_of_cell? _ _ hw906_1;first | rwa [add_block] at this | exact this) GW904.out)) | (dsimp only;exact Nat.ne_of_lt (Nat.lt_of_lt_of_le (by have := World.block_lt_of_cell? _ _ hw906_1;first | rwa [add_block] at this | exact this) GW904.out))) _).trans (((cell_far (p := ⟨gb904,_,none⟩) (by first | exact Nat.ne_of_lt (Nat.lt_of_lt_of_le (by have := World.block_lt_of_cell? _ _ hw906_1;first | rwa [add_block] at this | exact this) GW904.out) | (rw [add_block];exact Nat.ne_of_lt (Nat.lt_of_lt_of_le (by have := World.block_lt_of_cell? _ _ hw906_1;first | rwa [add_block] at this | exact this) GW904.out)) | (show (Addr.add _ _).block ≠ _;rw [add_block];exact Nat.ne_of_lt (Nat.lt_of_lt_of_le (by have := World.block_lt_of_cell? _ _ hw906_1;first | rwa [add_block] at this | exact this) GW904.out)) | (dsimp only;exact Nat.ne_of_lt (Nat.lt_of_lt_of_le (by have := World.block_lt_of_cell? _ _ hw906_1;first | rwa [add_block] at this | exact this) GW904.out))) _).trans (hHeld.2.2.2))))))))))))⟩ (fun hHeld => ?_)
          clear hK K
          refine done_ (done_of HT_.out (by kernel_rfl)) ?_
          try go_wp2
          refine bodyPost_ret (results_cell_row rfl _ _ gb904 84 #[.int .i64 0,.bool true,.int .i64 ((rd_T40 l0 a1).f0),.int .i64 ((rd_T40 l0 a1).f1),.slice none 0 0,.bool false] (0,0) _ rfl (by (with_reducible repeat (first | refine blk_drewN ?_ _ | refine blk_drew ?_ | refine blk_alloc ?_ _));refine blk_put (cs := #[.int .i64 0,.bool true,.int .i64 ((rd_T40 l0 a1).f0),.int .i64 ((rd_T40 l0 a1).f1),.slice none 0 0,.bool false]) ?_ 5 _ rfl;(with_reducible repeat (first | refine blk_drewN ?_ _ | refine blk_drew ?_ | refine blk_alloc ?_ _));refine blk_put (cs := #[.int .i64 0,.bool true,.int .i64 ((rd_T40 l0 a1).f0),.int .i64 ((rd_T40 l0 a1).f1),.slice none 0 0,.bool false]) ?_ 4 _ rfl;(with_reducible repeat (first | refine blk_drewN ?_ _ | refine blk_drew ?_ | refine blk_alloc ?_ _));refine blk_put (cs := #[.int .i64 0,.bool true,.int .i64 ((rd_T40 l0 a1).f0),.int .i64 0,.slice none 0 0,.bool false]) ?_ 3 _ rfl;(with_reducible repeat (first | refine blk_drewN ?_ _ | refine blk_drew ?_ | refine blk_alloc ?_ _));refine blk_put (cs := #[.int .i64 0,.bool true,.int .i64 0,.int .i64 0,.slice none 0 0,.bool false]) ?_ 2 _ rfl;(with_reducible repeat (first | refine blk_drewN ?_ _ | refine blk_drew ?_ | refine blk_alloc ?_ _));refine blk_put (cs := #[.int .i64 0,.bool false,.int .i64 0,.int .i64 0,.slice none 0 0,.bool false]) ?_ 1 _ rfl;(with_reducible repeat (first | refine blk_drewN ?_ _ | refine blk_drew ?_ | refine blk_alloc ?_ _));refine blk_put (cs := #[.int .i64 0,.bool false,.int .i64 0,.int .i64 0,.slice none 0 0,.bool false]) ?_ 0 _ rfl;(with_reducible repeat (first | refine blk_drewN ?_ _ | refine blk_drew ?_ | refine blk_alloc ?_ _));exact BK904.out) Try.underlying84 rfl (by kernel_rfl)) rfl ?_
          exact ⟨_,by first | rfl | (simp [errW_none,errW_some] <;> rfl) | (simp [*,errW_none,errW_some] <;> rfl),by first | exact Kd.R_nil _ _ _ _ _ | exact Kd.N_nil _ _ _ _ _ | exact Kd.V_nil _ _ _ _ _ | exact Kd.Q_nil _ _ _ _ _ | exact Kd.S_nil _ _ _ _ _,by repeat (first | (with_reducible first | exact HB.out | apply below_alloc | apply pw_below_drewN | apply below_drew1 | refine below_set ?_ GE904.out) | exact HB.out)⟩
        · rw [if_neg c10] at H
          exact absurd H (by simp)
      · rw [if_neg c9] at H
        exact absurd H (by simp)

end Go.Proofs.Ytkoiffkonjpoiaa.Q
namespace Go.Proofs.YtkoiffkonjpoiaaX
open Go.RowKit Go.Proofs.YtkoiffkonjpoiaaW.PrintWords Go.Proofs.YtkoiffkonjpoiaaW.PrintMore
theorem V_blk {α : Type} {d : Kd α} {e base : Nat} {ok : Nat → Prop} {W : World} {ad : Addr} {n c : Nat} {xs : List α} (h : Kd.V d e W base ok (.slice (some ad) n c) xs) (hn : 0 < xs.length) (hs : 0 < d.sz) : ok ad.block := by
  have hF := (Kd.V_at h).2.2
  rcases Classical.em (ok ad.block) with h1 | hno
  · exact h1
  exfalso
  have hC := hF { W with heap := W.heap.setIfInBounds ad.block (.cells #[] 0 (0,0)) } (fun k hk _ => by
    show (W.heap.setIfInBounds ad.block _)[k]? = W.heap[k]?
    rw [Array.getElem?_setIfInBounds]
    exact if_neg (fun hh : ad.block = k => hno (by rw [hh];exact hk)))
  obtain ⟨_,_,hr⟩ := hC
  obtain ⟨ad',e',hc⟩ := hr hn
  cases e'
  obtain ⟨c',hl,_,hcell⟩ := hc 0 xs[0] (List.getElem?_eq_getElem hn)
  have h0 : 0 < c'.length := by omega
  have := hcell 0 c'[0] (List.getElem?_eq_getElem h0)
  rw [Nat.zero_mul,Nat.zero_add] at this
  have hb : (ad.add 0).block = ad.block := by unfold Addr.add;split <;> rfl
  unfold World.cell? at this
  rw [hb] at this
  have hg : (W.heap.setIfInBounds ad.block (Obj.cells #[] 0 (0,0)))[ad.block]? = if ad.block < W.heap.size then some (Obj.cells #[] 0 (0,0)) else none := by
    rw [Array.getElem?_setIfInBounds,if_pos rfl]
  simp only [hg] at this
  by_cases hlt : ad.block < W.heap.size
  · simp only [if_pos hlt] at this
    split at this <;> simp at this
  · simp only [if_neg hlt] at this
    simp at this
end Go.Proofs.YtkoiffkonjpoiaaX
