/- The story's check at the start, by hand: it is true. No condition. -/
import Derived.Test.YtkoiffkonjpoiaaQS6
import Derived.Test.YtkoiffkonjpoiaaQS7
namespace Go.Proofs.Ytkoiffkonjpoiaa.Q
open Go.RowKit Go.Proofs.YtkoiffkonjpoiaaW.PrintWords Go.Proofs.YtkoiffkonjpoiaaW.PrintLast Go.Proofs.YtkoiffkonjpoiaaW.PrintMore Go.Proofs.YtkoiffkonjpoiaaX
attribute [local go_sem] max2_int min2_int max_two min_two max_three min_three max_four min_four
set_option linter.unusedVariables false
set_option linter.unusedSimpArgs false
def awA : S128 := ⟨0, ⟨1, 1, 0, 5⟩, 0, 9, ⟨0, false, 0, 0, [], false⟩⟩
def awB : S128 := ⟨0, ⟨0, 1, 0, 0⟩, 2, 3, ⟨0, true, 0, 5, [], false⟩⟩
set_option maxRecDepth 100000 in
theorem aw_order : Order.f 40 [] [awA, awB] = some (true, [0, 1]) := by kernel_rfl
set_option maxRecDepth 100000 in
theorem aw_legal : Legal.f 40 [] [awA, awB] [0, 1] = some true := by kernel_rfl
set_option maxRecDepth 100000 in
theorem aw_not : Legal.f 40 [] [awA, awB] [1, 0] = some false := by kernel_rfl
def awC : List Value := [.int .i64 0, .int .u8 1, .int .i64 1, .int .i64 0, .int .i64 5, .int .i64 0, .int .i64 9, .int .i64 0, .bool false, .int .i64 0, .int .i64 0, .slice none 0 0, .bool false, .int .i64 0, .int .u8 0, .int .i64 1, .int .i64 0, .int .i64 0, .int .i64 2, .int .i64 3, .int .i64 0, .bool true, .int .i64 0, .int .i64 5, .slice none 0 0, .bool false]
theorem aw_reps (W : World) (base : Nat) (ok : Nat → Prop) : Reps (k128.M W base ok) k128.sz [awA, awB] awC := by
  refine ⟨rfl, fun j x hx => ?_⟩
  match j with
  | 0 => cases hx; exact k128_mkM W base ok awA (v11 := .slice none 0 0) (Kd.R_nil _ _ _ _ _)
  | 1 => cases hx; exact k128_mkM W base ok awB (v11 := .slice none 0 0) (Kd.R_nil _ _ _ _ _)
  | j + 2 => simp at hx
theorem two_reps (a b : Int) (W : World) (base : Nat) (ok : Nat → Prop) : Reps ((Kd.int .i64).M W base ok) (Kd.int .i64).sz [a, b] [.int .i64 a, .int .i64 b] := (reps_flat (flat_int .i64) (fun x cs => (flat_int .i64).M W base ok x cs)).2 rfl
theorem below_of_grown {W W1 : World} (h : W.grownBy W1 none) : Below W.heap.size W W1 := ⟨h.os, h.tape, h.output, h.size, fun k hk => h.block k hk (by simp)⟩
set_option maxHeartbeats 8000000 in
set_option maxRecDepth 100000 in
theorem Awake22.calls (w : World) : Calls Try.prog 84 #[] w fun e w' => e = .returned (.bool true) ∧ Below w.heap.size w w' := by
  have hu128 := Try.underlying128
  have hu84 := Try.underlying84
  have hu78 := Try.underlying78
  go_enter Try.func84, Try.ntmps84
  go_upto_region 3 with (first | ((with_reducible refine gate_dst (N := 9) rfl ?_); refine Kd.R_lit k128 (w0 := w) w.heap.size 128 ?hg (N := 9) ?hd (xs := [awA, awB]) (inner := awC) (ok := fun _ => True) (okp := fun _ => True) ?hr ?hp (fun _ hk => hk) trivial (Below.refl _ _) (Nat.le_refl _) (by simp) ?_; (case hd => rfl); (case hg => rfl); (case hr => first | (go_simp; done) | (go_simp; rfl)); (case hp => exact aw_reps _ _ _); intro v9 w1 ho hb hg_ hnew_; clear hg_ hnew_; obtain ⟨A9, c9, e9⟩ := Kd.R_slice ho; subst e9; have HE := Lib.hid (Kd.R_reads' ho).2; have HB := Lib.hid hb; clear ho hb) | (go_at_call 92; refine (Order.calls 40 none 0 [] A9 c9 [awA, awB] true [0, 1] _ (Kd.C_nil _ _) (Nat.le_refl _) HE.out.2 HE.out.1 aw_order).mono ?_; rintro e_ w2 ⟨v2, rfl, hO, hb2⟩; obtain ⟨Ao, co, eo⟩ := Kd.R_slice hO; subst eo; have HO := Lib.hid (Kd.R_reads' hO).2; have HE2 := Lib.hid (And.intro HE.out.1 (Kd.C_below HE.out.2 hb2)); have HB2 := Lib.hid (below_step HB.out hb2); clear hO hb2))
  obtain ⟨ad, ea, x0⟩ := Kd.at_int HO.out.2 0 (by decide) (by decide)
  subst ea
  have x0' : w2.cell? (ad.add 0) = some (.int .i64 0) := x0
  have ea0 : ad.add 0 = ad := by simp [Addr.add]
  have x0'' : w2.cell? ad = some (.int .i64 0) := by rw [← ea0]; exact x0
  have hlen : (toI [0, 1]).length = 2 := rfl
  clear x0
  go_wp2_with ((with_reducible refine gate_dst (N := 29) rfl ?_); (try (refine gate_guard (by rfl) ?_; dsimp only)); refine Kd.R_lit (Kd.int .i64) (w0 := w) w.heap.size 3 ?hg (N := 29) ?hd (xs := [0, 1]) (inner := [.int .i64 0, .int .i64 1]) (ok := fun _ => True) (okp := fun _ => True) ?hr ?hp (fun _ hk => hk) trivial HB2.out (below_size HB2.out) (by simp) ?_; (case hd => rfl); (case hg => rfl); (case hr => first | (go_simp; done) | (go_simp; rfl)); (case hp => exact two_reps _ _ _ _ _); intro v29 w29 ho hb hg_ hnew_; have HG29B := Lib.hid (below_of_grown hg_); clear hg_ hnew_; obtain ⟨A29, c29, e29⟩ := Kd.R_slice ho; subst e29; have HL29 := Lib.hid (Kd.R_reads' ho).2; have HB29 := Lib.hid hb; clear ho hb)
  refine (Legal.calls 40 none 0 [] A9 c9 [awA, awB] A29 c29 [0, 1] true _ (Kd.C_nil _ _) (Nat.le_refl _) (Kd.C_below HE2.out.2 HG29B.out) HE2.out.1 HL29.out.2 HL29.out.1 aw_legal).mono ?_
  rintro e_ w3 ⟨rfl, hb2⟩
  have HB3 := Lib.hid (below_step HB29.out hb2)
  have HE3 := Lib.hid (And.intro HE2.out.1 (Kd.C_below (Kd.C_below HE2.out.2 HG29B.out) hb2))
  clear hb2
  go_wp2_with ((with_reducible refine gate_dst (N := 34) rfl ?_); (try (refine gate_guard (by rfl) ?_; dsimp only)); refine Kd.R_lit (Kd.int .i64) (w0 := w) w.heap.size 3 ?hg (N := 34) ?hd (xs := [1, 0]) (inner := [.int .i64 1, .int .i64 0]) (ok := fun _ => True) (okp := fun _ => True) ?hr ?hp (fun _ hk => hk) trivial HB3.out (below_size HB3.out) (by simp) ?_; (case hd => rfl); (case hg => rfl); (case hr => first | (go_simp; done) | (go_simp; rfl)); (case hp => exact two_reps _ _ _ _ _); intro v34 w34 ho hb hg_ hnew_; have HG34B := Lib.hid (below_of_grown hg_); clear hg_ hnew_; obtain ⟨A34, c34, e34⟩ := Kd.R_slice ho; subst e34; have HL34 := Lib.hid (Kd.R_reads' ho).2; have HB34 := Lib.hid hb; clear ho hb)
  refine (Legal.calls 40 none 0 [] A9 c9 [awA, awB] A34 c34 [1, 0] false _ (Kd.C_nil _ _) (Nat.le_refl _) (Kd.C_below HE3.out.2 HG34B.out) HE3.out.1 HL34.out.2 HL34.out.1 aw_not).mono ?_
  rintro e_ w4 ⟨rfl, hb2⟩
  have HB4 := Lib.hid (below_step HB34.out hb2)
  have HE4 := Lib.hid (And.intro HE3.out.1 (Kd.C_below (Kd.C_below HE3.out.2 HG34B.out) hb2))
  clear hb2
  go_wp2_with fail
  go_ret
  exact ⟨rfl, HB4.out⟩
end Go.Proofs.Ytkoiffkonjpoiaa.Q
