/- The law boscagelaw22.StoryMost: proved for all arguments, from the printed walk and the plain law; no condition. -/
import Derived.Test.YtkoiffkonjpoiaaRows
import Derived.Test.YtkoiffkonjpoiaaQLStoryMost
import Derived.Test.YtkoiffkonjpoiaaPureStoryMost
import Derived.Test.YtkoiffkonjpoiaaXTypes
import Derived.Test.YtkoiffkonjpoiaaXRow
import Derived.Test.YtkoiffkonjpoiaaWSized
import Derived.WalkKit
import Derived.ProofKit
import Derived.OpenShut
import Derived.ShutString
import Derived.ChangeOld
import Derived.Below
import Derived.SizedLaws
namespace Go.Proofs.Ytkoiffkonjpoiaa.storyMost
open Go.ChangeShapes Go.WideShapes Go.ChangeAt Go.RowKit Go.Proofs.YtkoiffkonjpoiaaX Go.Proofs.YtkoiffkonjpoiaaW.PrintWords Go.Proofs.YtkoiffkonjpoiaaW.PrintMore
set_option linter.unusedVariables false
theorem own : ownKnob Try.prog.godebug = none := by kernel_rfl
theorem laidOut : laidOutB Try.prog = true := by kernel_rfl
set_option maxRecDepth 100000 in
theorem lifted (os : Os) (started : os.Started) (H : Type) (enc : TypeId × Value → H) :
    ReturnsInHanded {} Try.checked os 37 .any (Rows.storyMostSpec.pre6 enc Try.prog Try.f37 Rows.storyMostRow.domain false) (Rows.storyMostSpec.post enc Try.prog Try.f37 false true false false) := by
  refine returnsInHanded_of_change_sized (C := Try.checked) own started (by kernel_rfl) Try.func37
    (ChangeSpec.witness6 (enc := enc) (C := Try.checked) false ⟨#[], #[.int .u8 0, .int .i64 0], []⟩ 8 (by kernel_rfl) (by kernel_rfl) (by kernel_rfl) (by kernel_rfl)) ?_
  intro W base args ds gs before hval0 hW hcnd hsz0 _
  have hval : ∀ (j : Nat) t v, Try.f37.params[j]? = some t → args[j]? = some v → Value.okWide Try.prog W .any base t v := hval0
  have hW' := hW
  obtain ⟨p, q, hA0, hV, rfl, hfz, hnd⟩ := hW
  have hA : DataW.TrodAll enc Try.prog W 0 (fun _ => true) true Try.f37.params.toList args.toList ds p := hA0
  rw [Try.params37] at hA hval
  obtain ⟨v0, vs0, d0, ds0, p0, q0, hargs, rfl, rfl, h0, r0⟩ := trodAll_cons hA
  obtain ⟨v1, vs1, d1, ds1, p1, q1, rfl, rfl, rfl, h1, r1⟩ := trodAll_cons r0
  obtain ⟨rfl, rfl, rfl⟩ := trodAll_nil r1
  obtain rfl : args = #[v0, v1] := by cases args; simp_all
  obtain ⟨rfl, rfl⟩ := trodVars_none hV
  obtain ⟨a0, rfl, rfl, rfl, w0⟩ := open_int Try.underlying5 (hval 0 5 v0 rfl rfl) h0
  obtain ⟨a1, rfl, rfl, rfl, w1⟩ := open_int Try.underlying2 (hval 1 2 v1 rfl rfl) h1
  clear hA0 hval0 hsz0
  obtain ⟨kk, hh⟩ := Pure.StoryMost a0 a1 w0 w1
  refine (Q.boscagelaw22_StoryMost.calls kk a0 a1 true W  hh).mono fun e W' ⟨he, bel⟩ => ?_
  subst he
  exact ⟨_, rfl, _, _, _, [], _, [], hW', trodAll_mk1 (shut_bool Try.underlying4 _), (trodAll_cons_mk (shut_int Try.underlying5 w0) (trodAll_cons_mk (shut_int Try.underlying2 w1) trodAll_mk0)), rfl, bel.frame _, fun h => by cases h⟩
theorem facts : joinedFacts Try.prog 37 Try.f37 Rows.storyMostSpec Rows.storyMostRow = true := by
  unfold joinedFacts; rw [Go.Proofs.YtkoiffkonjpoiaaX.mayEnter, Go.Proofs.YtkoiffkonjpoiaaX.liftsFinal, Go.Proofs.YtkoiffkonjpoiaaX.make]; kernel_rfl
theorem over : Rows.storyMostRow.holds Try.pinned (OpenSpec.ofChange Rows.storyMostSpec) :=
  OpenClaim.holds_of_wide 37 Try.f37 rfl rfl rfl rfl rfl rfl rfl ⟨rfl, rfl, rfl, rfl, rfl⟩ rfl rfl rfl rfl rfl (by kernel_rfl) Try.func37 facts
    (of_decide_eq_true (by kernel_rfl)) (by unfold Func.isWrapper; first | (rw [if_pos (by decide +kernel)]; kernel_rfl) | (rw [if_neg (by decide +kernel)]; exact ⟨rfl, rfl⟩))
    (fun os started H enc _ => lifted os started H enc)
theorem proved : Rows.StoryMostSaid := over
#print axioms proved
end Go.Proofs.Ytkoiffkonjpoiaa.storyMost
namespace Go.Proofs.Ytkoiffkonjpoiaa
/-- The row, under a short name, for the claim. -/
theorem storyMost_holds : Rows.StoryMostSaid := storyMost.proved
end Go.Proofs.Ytkoiffkonjpoiaa
