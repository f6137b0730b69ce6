/- The law boscagelaw22.StoryOrders: proved for all arguments, from the printed walk and the plain law; no condition. -/
import Derived.Test.YtkoiffkonjpoiaaRows
import Derived.Test.YtkoiffkonjpoiaaQLStoryOrders
import Derived.Test.YtkoiffkonjpoiaaPureStoryOrders
import Derived.Test.YtkoiffkonjpoiaaQM6
import Derived.Test.YtkoiffkonjpoiaaWSized
import Derived.WalkKit
import Derived.ProofKit
import Derived.OpenShut
import Derived.ShutString
import Derived.ChangeOld
import Derived.Below
import Derived.SizedLaws
namespace Go.Proofs.Ytkoiffkonjpoiaa.storyOrders
open Go.ChangeShapes Go.WideShapes Go.ChangeAt Go.RowKit Go.Proofs.YtkoiffkonjpoiaaX Go.Proofs.YtkoiffkonjpoiaaW.PrintWords Go.Proofs.YtkoiffkonjpoiaaW.PrintMore
set_option linter.unusedVariables false
theorem own : ownKnob Try.prog.godebug = none := by kernel_rfl
theorem laidOut : laidOutB Try.prog = true := by kernel_rfl
set_option maxRecDepth 100000 in
theorem lifted (os : Os) (started : os.Started) (H : Type) (enc : TypeId × Value → H) :
    ReturnsInHanded {} Try.checked os 32 .any (Rows.storyOrdersSpec.pre6 enc Try.prog Try.f32 Rows.storyOrdersRow.domain false) (Rows.storyOrdersSpec.post enc Try.prog Try.f32 false true false false) := by
  refine returnsInHanded_of_change_sized (C := Try.checked) own started (by kernel_rfl) Try.func32
    (ChangeSpec.witness6 (enc := enc) (C := Try.checked) false ⟨#[], #[.slice none 0 0, .slice none 0 0, .slice none 0 0, .int .u8 0, .int .u8 0], []⟩ 8 (by kernel_rfl) (by kernel_rfl) (by kernel_rfl) (by kernel_rfl)) ?_
  intro W base args ds gs before hval0 hW hcnd hsz0 _
  have hval : ∀ (j : Nat) t v, Try.f32.params[j]? = some t → args[j]? = some v → Value.okWide Try.prog W .any base t v := hval0
  have hW' := hW
  obtain ⟨p, q, hA0, hV, rfl, hfz, hnd⟩ := hW
  have hA : DataW.TrodAll enc Try.prog W 0 (fun _ => true) true Try.f32.params.toList args.toList ds p := hA0
  rw [Try.params32] at hA hval
  obtain ⟨v0, vs0, d0, ds0, p0, q0, hargs, rfl, rfl, h0, r0⟩ := trodAll_cons hA
  obtain ⟨v1, vs1, d1, ds1, p1, q1, rfl, rfl, rfl, h1, r1⟩ := trodAll_cons r0
  obtain ⟨v2, vs2, d2, ds2, p2, q2, rfl, rfl, rfl, h2, r2⟩ := trodAll_cons r1
  obtain ⟨v3, vs3, d3, ds3, p3, q3, rfl, rfl, rfl, h3, r3⟩ := trodAll_cons r2
  obtain ⟨v4, vs4, d4, ds4, p4, q4, rfl, rfl, rfl, h4, r4⟩ := trodAll_cons r3
  obtain ⟨rfl, rfl, rfl⟩ := trodAll_nil r4
  obtain rfl : args = #[v0, v1, v2, v3, v4] := by cases args; simp_all
  obtain ⟨rfl, rfl⟩ := trodVars_none hV
  have k0 := h0
  have lt0 : ∀ x ∈ p0, x.block < W.heap.size := by obtain ⟨m, hm⟩ := k0; exact DataW.trod_lt m _ _ _ hm
  obtain ⟨A0, c0, l0, rfl, hr0, hc0, y0, w0⟩ := Rd.argSlice Try.underlying22 (by kernel_rfl) X.rd2 (hval 0 22 v0 rfl rfl) h0
  have k1 := h1
  have lt1 : ∀ x ∈ p1, x.block < W.heap.size := by obtain ⟨m, hm⟩ := k1; exact DataW.trod_lt m _ _ _ hm
  obtain ⟨A1, c1, l1, rfl, hr1, hc1, y1, w1⟩ := Rd.argSlice Try.underlying108 (by kernel_rfl) X.rd126 (hval 1 108 v1 rfl rfl) h1
  have k2 := h2
  have lt2 : ∀ x ∈ p2, x.block < W.heap.size := by obtain ⟨m, hm⟩ := k2; exact DataW.trod_lt m _ _ _ hm
  obtain ⟨A2, c2, l2, rfl, hr2, hc2, y2, w2⟩ := Rd.argSlice Try.underlying109 (by kernel_rfl) X.rd5 (hval 2 109 v2 rfl rfl) h2
  obtain ⟨a3, rfl, rfl, rfl, w3⟩ := open_int Try.underlying5 (hval 3 5 v3 rfl rfl) h3
  obtain ⟨a4, rfl, rfl, rfl, w4⟩ := open_int Try.underlying5 (hval 4 5 v4 rfl rfl) h4
  clear hA0 hval0 hsz0
  obtain ⟨kk, hh⟩ := Pure.StoryOrders l0 l1 l2 a3 a4 y0 w0 y1 w1 y2 w2 w3 w4
  refine (Q.boscagelaw22_StoryOrders.calls kk A0 c0 l0 A1 c1 l1 A2 c2 l2 a3 a4 true W hr0 hc0 hr1 hc1 hr2 hc2 hh).mono fun e W' ⟨he, bel⟩ => ?_
  subst he
  exact ⟨_, rfl, _, _, _, [], _, [], hW', trodAll_mk1 (shut_bool Try.underlying4 _), (trodAll_cons_mk (Below.trod laidOut (by kernel_rfl) (of_decide_eq_true (by kernel_rfl)) k0 bel lt0) (trodAll_cons_mk (Below.trod laidOut (by kernel_rfl) (of_decide_eq_true (by kernel_rfl)) k1 bel lt1) (trodAll_cons_mk (Below.trod laidOut (by kernel_rfl) (of_decide_eq_true (by kernel_rfl)) k2 bel lt2) (trodAll_cons_mk (shut_int Try.underlying5 w3) (trodAll_cons_mk (shut_int Try.underlying5 w4) trodAll_mk0))))), rfl, bel.frame _, fun h => by cases h⟩
theorem facts : joinedFacts Try.prog 32 Try.f32 Rows.storyOrdersSpec Rows.storyOrdersRow = true := by
  unfold joinedFacts; rw [Go.Proofs.YtkoiffkonjpoiaaX.mayEnter, Go.Proofs.YtkoiffkonjpoiaaX.liftsFinal, Go.Proofs.YtkoiffkonjpoiaaX.make]; kernel_rfl
theorem over : Rows.storyOrdersRow.holds Try.pinned (OpenSpec.ofChange Rows.storyOrdersSpec) :=
  OpenClaim.holds_of_wide 32 Try.f32 rfl rfl rfl rfl rfl rfl rfl ⟨rfl, rfl, rfl, rfl, rfl⟩ rfl rfl rfl rfl rfl (by kernel_rfl) Try.func32 facts
    (of_decide_eq_true (by kernel_rfl)) (by unfold Func.isWrapper; first | (rw [if_pos (by decide +kernel)]; kernel_rfl) | (rw [if_neg (by decide +kernel)]; exact ⟨rfl, rfl⟩))
    (fun os started H enc _ => lifted os started H enc)
theorem proved : Rows.StoryOrdersSaid := over
#print axioms proved
end Go.Proofs.Ytkoiffkonjpoiaa.storyOrders
namespace Go.Proofs.Ytkoiffkonjpoiaa
/-- The row, under a short name, for the claim. -/
theorem storyOrders_holds : Rows.StoryOrdersSaid := storyOrders.proved
end Go.Proofs.Ytkoiffkonjpoiaa
