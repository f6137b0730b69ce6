/- The law boscagelaw18.ModelOf: proved for all arguments, from the printed walk and the plain law; no condition. -/
import Derived.Test.YtkoiffkonjpoiaaRows
import Derived.Test.YtkoiffkonjpoiaaQLModelOf
import Derived.Test.YtkoiffkonjpoiaaPureModelOf
import Derived.Test.YtkoiffkonjpoiaaXTypes
import Derived.Test.YtkoiffkonjpoiaaXRow
import Derived.Test.YtkoiffkonjpoiaaWSized
import Derived.WalkKit
import Derived.ProofKit
import Derived.OpenShut
import Derived.ShutString
import Derived.ChangeOld
import Derived.Below
import Derived.SizedLaws
namespace Go.Proofs.Ytkoiffkonjpoiaa.modelOf
open Go.ChangeShapes Go.WideShapes Go.ChangeAt Go.RowKit Go.Proofs.YtkoiffkonjpoiaaX Go.Proofs.YtkoiffkonjpoiaaW.PrintWords Go.Proofs.YtkoiffkonjpoiaaW.PrintMore
set_option linter.unusedVariables false
theorem own : ownKnob Try.prog.godebug = none := by kernel_rfl
theorem laidOut : laidOutB Try.prog = true := by kernel_rfl
set_option maxRecDepth 100000 in
theorem lifted (os : Os) (started : os.Started) (H : Type) (enc : TypeId × Value → H) :
    ReturnsInHanded {} Try.checked os 20 .any (Rows.modelOfSpec.pre6 enc Try.prog Try.f20 Rows.modelOfRow.domain false) (Rows.modelOfSpec.post enc Try.prog Try.f20 false true false false) := by
  refine returnsInHanded_of_change_sized (C := Try.checked) own started (by kernel_rfl) Try.func20
    (ChangeSpec.witness6 (enc := enc) (C := Try.checked) false ⟨#[], #[.agg #[.int .u8 0, .int .i64 0, .int .i64 0, .int .i64 0], .slice none 0 0], []⟩ 8 (by kernel_rfl) (by kernel_rfl) (by kernel_rfl) (by kernel_rfl)) ?_
  intro W base args ds gs before hval0 hW hcnd hsz0 _
  have hval : ∀ (j : Nat) t v, Try.f20.params[j]? = some t → args[j]? = some v → Value.okWide Try.prog W .any base t v := hval0
  have hW' := hW
  obtain ⟨p, q, hA0, hV, rfl, hfz, hnd⟩ := hW
  have hA : DataW.TrodAll enc Try.prog W 0 (fun _ => true) true Try.f20.params.toList args.toList ds p := hA0
  rw [Try.params20] at hA hval
  obtain ⟨v0, vs0, d0, ds0, p0, q0, hargs, rfl, rfl, h0, r0⟩ := trodAll_cons hA
  obtain ⟨v1, vs1, d1, ds1, p1, q1, rfl, rfl, rfl, h1, r1⟩ := trodAll_cons r0
  obtain ⟨rfl, rfl, rfl⟩ := trodAll_nil r1
  obtain rfl : args = #[v0, v1] := by cases args; simp_all
  obtain ⟨rfl, rfl⟩ := trodVars_none hV
  have k0 := h0
  have lt0 : ∀ x ∈ p0, x.block < W.heap.size := by obtain ⟨m, hm⟩ := k0; exact DataW.trod_lt m _ _ _ hm
  obtain ⟨x0, cs0, rfl, hk0, w0⟩ := Rd.argStruct Try.underlying78 X.rd78 (hval 0 78 v0 rfl rfl) h0
  obtain rfl := Q.k78_open hk0
  have k1 := h1
  have lt1 : ∀ x ∈ p1, x.block < W.heap.size := by obtain ⟨m, hm⟩ := k1; exact DataW.trod_lt m _ _ _ hm
  obtain ⟨A1, c1, l1, rfl, hr1, hc1, y1, w1⟩ := Rd.argSlice Try.underlying34 (by kernel_rfl) X.rd40 (hval 1 34 v1 rfl rfl) h1
  clear hA0 hval0 hsz0
  obtain ⟨kk, hh⟩ := Pure.ModelOf x0 l1 w0 y1 w1
  refine (Q.boscagelaw18_ModelOf.calls kk x0.f0 x0.f1 x0.f2 x0.f3 A1 c1 l1 true W hr1 hc1 hh).mono fun e W' ⟨he, bel⟩ => ?_
  subst he
  exact ⟨_, rfl, _, _, _, [], _, [], hW', trodAll_mk1 (shut_bool Try.underlying4 _), (trodAll_cons_mk (Below.trod laidOut (by kernel_rfl) (of_decide_eq_true (by kernel_rfl)) k0 bel lt0) (trodAll_cons_mk (Below.trod laidOut (by kernel_rfl) (of_decide_eq_true (by kernel_rfl)) k1 bel lt1) trodAll_mk0)), rfl, bel.frame _, fun h => by cases h⟩
theorem facts : joinedFacts Try.prog 20 Try.f20 Rows.modelOfSpec Rows.modelOfRow = true := by
  unfold joinedFacts; rw [Go.Proofs.YtkoiffkonjpoiaaX.mayEnter, Go.Proofs.YtkoiffkonjpoiaaX.liftsFinal, Go.Proofs.YtkoiffkonjpoiaaX.make]; kernel_rfl
theorem over : Rows.modelOfRow.holds Try.pinned (OpenSpec.ofChange Rows.modelOfSpec) :=
  OpenClaim.holds_of_wide 20 Try.f20 rfl rfl rfl rfl rfl rfl rfl ⟨rfl, rfl, rfl, rfl, rfl⟩ rfl rfl rfl rfl rfl (by kernel_rfl) Try.func20 facts
    (of_decide_eq_true (by kernel_rfl)) (by unfold Func.isWrapper; first | (rw [if_pos (by decide +kernel)]; kernel_rfl) | (rw [if_neg (by decide +kernel)]; exact ⟨rfl, rfl⟩))
    (fun os started H enc _ => lifted os started H enc)
theorem proved : Rows.ModelOfSaid := over
#print axioms proved
end Go.Proofs.Ytkoiffkonjpoiaa.modelOf
namespace Go.Proofs.Ytkoiffkonjpoiaa
/-- The row, under a short name, for the claim. -/
theorem modelOf_holds : Rows.ModelOfSaid := modelOf.proved
end Go.Proofs.Ytkoiffkonjpoiaa
