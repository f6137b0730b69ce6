/- The law boscagelaw03.InnerAbsorbs: proved for all arguments, from the printed walk and the plain law; no condition. -/
import Derived.Test.YtkoiffkonjpoiaaRows
import Derived.Test.YtkoiffkonjpoiaaQLInnerAbsorbs
import Derived.Test.YtkoiffkonjpoiaaPureInnerAbsorbs
import Derived.Test.YtkoiffkonjpoiaaXTypes
import Derived.Test.YtkoiffkonjpoiaaXRow
import Derived.Test.YtkoiffkonjpoiaaWSized
import Derived.WalkKit
import Derived.ProofKit
import Derived.OpenShut
import Derived.ShutString
import Derived.ChangeOld
import Derived.Below
import Derived.SizedLaws
namespace Go.Proofs.Ytkoiffkonjpoiaa.innerAbsorbs
open Go.ChangeShapes Go.WideShapes Go.ChangeAt Go.RowKit Go.Proofs.YtkoiffkonjpoiaaX Go.Proofs.YtkoiffkonjpoiaaW.PrintWords Go.Proofs.YtkoiffkonjpoiaaW.PrintMore
set_option linter.unusedVariables false
theorem own : ownKnob Try.prog.godebug = none := by kernel_rfl
theorem laidOut : laidOutB Try.prog = true := by kernel_rfl
set_option maxRecDepth 100000 in
theorem lifted (os : Os) (started : os.Started) (H : Type) (enc : TypeId × Value → H) :
    ReturnsInHanded {} Try.checked os 24 .any (Rows.innerAbsorbsSpec.pre6 enc Try.prog Try.f24 Rows.innerAbsorbsRow.domain false) (Rows.innerAbsorbsSpec.post enc Try.prog Try.f24 false true false false) := by
  refine returnsInHanded_of_change_sized (C := Try.checked) own started (by kernel_rfl) Try.func24
    (ChangeSpec.witness6 (enc := enc) (C := Try.checked) false ⟨#[], #[.agg #[.slice none 0 0, .slice none 0 0], .agg #[.slice none 0 0, .slice none 0 0], .int .i64 0], []⟩ 8 (by kernel_rfl) (by kernel_rfl) (by kernel_rfl) (by kernel_rfl)) ?_
  intro W base args ds gs before hval0 hW hcnd hsz0 _
  have hval : ∀ (j : Nat) t v, Try.f24.params[j]? = some t → args[j]? = some v → Value.okWide Try.prog W .any base t v := hval0
  have hW' := hW
  obtain ⟨p, q, hA0, hV, rfl, hfz, hnd⟩ := hW
  have hA : DataW.TrodAll enc Try.prog W 0 (fun _ => true) true Try.f24.params.toList args.toList ds p := hA0
  rw [Try.params24] at hA hval
  obtain ⟨v0, vs0, d0, ds0, p0, q0, hargs, rfl, rfl, h0, r0⟩ := trodAll_cons hA
  obtain ⟨v1, vs1, d1, ds1, p1, q1, rfl, rfl, rfl, h1, r1⟩ := trodAll_cons r0
  obtain ⟨v2, vs2, d2, ds2, p2, q2, rfl, rfl, rfl, h2, r2⟩ := trodAll_cons r1
  obtain ⟨rfl, rfl, rfl⟩ := trodAll_nil r2
  obtain rfl : args = #[v0, v1, v2] := by cases args; simp_all
  obtain ⟨rfl, rfl⟩ := trodVars_none hV
  have k0 := h0
  have lt0 : ∀ x ∈ p0, x.block < W.heap.size := by obtain ⟨m, hm⟩ := k0; exact DataW.trod_lt m _ _ _ hm
  obtain ⟨x0, cs0, rfl, hk0, w0⟩ := Rd.argStruct Try.underlying26 X.rd26 (hval 0 26 v0 rfl rfl) h0
  obtain ⟨A0_0, c0_0, A0_1, c0_1, rfl, m0_0, g0_0, m0_1, g0_1⟩ := Q.k26_open hk0
  have k1 := h1
  have lt1 : ∀ x ∈ p1, x.block < W.heap.size := by obtain ⟨m, hm⟩ := k1; exact DataW.trod_lt m _ _ _ hm
  obtain ⟨x1, cs1, rfl, hk1, w1⟩ := Rd.argStruct Try.underlying26 X.rd26 (hval 1 26 v1 rfl rfl) h1
  obtain ⟨A1_0, c1_0, A1_1, c1_1, rfl, m1_0, g1_0, m1_1, g1_1⟩ := Q.k26_open hk1
  obtain ⟨a2, rfl, rfl, rfl, w2⟩ := open_int Try.underlying3 (hval 2 3 v2 rfl rfl) h2
  clear hA0 hval0 hsz0
  obtain ⟨kk, hh⟩ := Pure.InnerAbsorbs x0 x1 a2 w0 w1 w2
  refine (Q.boscagelaw03_InnerAbsorbs.calls kk _ A0_0 c0_0 x0.f0 _ A0_1 c0_1 x0.f1 _ A1_0 c1_0 x1.f0 _ A1_1 c1_1 x1.f1 a2 true W (Kd.V_mk m0_0 (Kd.C_F (Kd.heap_int .i64) g0_0)) (Kd.V_mk m0_1 (Kd.C_F (Kd.heap_int .i64) g0_1)) (Kd.V_mk m1_0 (Kd.C_F (Kd.heap_int .i64) g1_0)) (Kd.V_mk m1_1 (Kd.C_F (Kd.heap_int .i64) g1_1)) hh).mono fun e W' ⟨he, bel⟩ => ?_
  subst he
  exact ⟨_, rfl, _, _, _, [], _, [], hW', trodAll_mk1 (shut_bool Try.underlying4 _), (trodAll_cons_mk (Below.trod laidOut (by kernel_rfl) (of_decide_eq_true (by kernel_rfl)) k0 bel lt0) (trodAll_cons_mk (Below.trod laidOut (by kernel_rfl) (of_decide_eq_true (by kernel_rfl)) k1 bel lt1) (trodAll_cons_mk (shut_int Try.underlying3 w2) trodAll_mk0))), rfl, bel.frame _, fun h => by cases h⟩
theorem facts : joinedFacts Try.prog 24 Try.f24 Rows.innerAbsorbsSpec Rows.innerAbsorbsRow = true := by
  unfold joinedFacts; rw [Go.Proofs.YtkoiffkonjpoiaaX.mayEnter, Go.Proofs.YtkoiffkonjpoiaaX.liftsFinal, Go.Proofs.YtkoiffkonjpoiaaX.make]; kernel_rfl
theorem over : Rows.innerAbsorbsRow.holds Try.pinned (OpenSpec.ofChange Rows.innerAbsorbsSpec) :=
  OpenClaim.holds_of_wide 24 Try.f24 rfl rfl rfl rfl rfl rfl rfl ⟨rfl, rfl, rfl, rfl, rfl⟩ rfl rfl rfl rfl rfl (by kernel_rfl) Try.func24 facts
    (of_decide_eq_true (by kernel_rfl)) (by unfold Func.isWrapper; first | (rw [if_pos (by decide +kernel)]; kernel_rfl) | (rw [if_neg (by decide +kernel)]; exact ⟨rfl, rfl⟩))
    (fun os started H enc _ => lifted os started H enc)
theorem proved : Rows.InnerAbsorbsSaid := over
#print axioms proved
end Go.Proofs.Ytkoiffkonjpoiaa.innerAbsorbs
namespace Go.Proofs.Ytkoiffkonjpoiaa
/-- The row, under a short name, for the claim. -/
theorem innerAbsorbs_holds : Rows.InnerAbsorbsSaid := innerAbsorbs.proved
end Go.Proofs.Ytkoiffkonjpoiaa
