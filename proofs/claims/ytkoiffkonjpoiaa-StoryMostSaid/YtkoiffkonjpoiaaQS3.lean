/- A map from how far a search is to a number: what a look and a store come to, by hand. No condition beyond what is said. -/
import Derived.Test.YtkoiffkonjpoiaaQS2
import Derived.DeepKeys4
import Derived.Maps.OwnOps
namespace Go.Proofs.Ytkoiffkonjpoiaa.Q
open Go.RowKit Go.Proofs.YtkoiffkonjpoiaaW.PrintWords Go.Proofs.YtkoiffkonjpoiaaW.PrintLast Go.Proofs.YtkoiffkonjpoiaaW.PrintMore Go.Proofs.YtkoiffkonjpoiaaX
set_option linter.unusedVariables false
set_option linter.unusedSimpArgs false
/-- A key: which are done, and the pairs as a text. -/
def keyV (x : Nat × List UInt8) : Value := .agg #[.int .u64 (x.1 : Int), .string ⟨x.2.toArray⟩]
theorem keyV_inj {x y : Nat × List UInt8} (h : keyV x = keyV y) : x = y := by
  unfold keyV at h
  simp only [Value.agg.injEq, Array.mk.injEq, List.cons.injEq, Value.int.injEq, Value.string.injEq, ByteArray.mk.injEq, and_true, true_and] at h
  exact Prod.ext (by omega) h.2
def okKey (x : Nat × List UInt8) : Prop := x.1 < 18446744073709551616 ∧ x.2.length ≤ maxLen
theorem Try_laidOut : laidOutB Try.prog = true := by kernel_rfl
theorem Try_law : WideMaps.KeyLaw Try.prog 172 := deep_law_laid Try_laidOut (m := 2) (by omega) (of_decide_eq_true (by kernel_rfl)) (by kernel_rfl) (by rw [Try.underlying172])
set_option maxRecDepth 10000 in
theorem keyOf_ok {x : Nat × List UInt8} (h : okKey x) : ∃ kl, keyOf Try.prog 172 (keyV x) = some kl := by
  have hkt : Try.prog.keyType 172 = true := by kernel_rfl
  have hsz : 172 < Try.prog.types.size := of_decide_eq_true (by kernel_rfl)
  have c172 : Try.prog.cellsOf 172 = 2 := by kernel_rfl
  have c153 : Try.prog.cellsOf 153 = 1 := by kernel_rfl
  have c9 : Try.prog.cellsOf 9 = 1 := by kernel_rfl
  have hw : (Lit.int .u64 (x.1 : Int)).wf = true := by
    have h1 := h.1
    show (decide (IntKind.u64.min ≤ (x.1 : Int)) && decide ((x.1 : Int) ≤ IntKind.u64.max)) = true
    have e1 : IntKind.u64.min = 0 := by decide
    have e2 : IntKind.u64.max = 18446744073709551615 := by decide
    rw [e1, e2, decide_eq_true (by omega), decide_eq_true (by omega)]
    rfl
  have hs : (⟨x.2.toArray⟩ : ByteArray).size ≤ maxLen := by show x.2.toArray.size ≤ maxLen; simpa using h.2
  unfold keyOf
  rw [Try.underlying172]
  dsimp only
  obtain ⟨m, hm⟩ : ∃ m, Try.prog.types.size + 1 = m + 2 := ⟨Try.prog.types.size - 1, by omega⟩
  rw [hkt, hm]
  have hf : (keyV x).formed Try.prog 172 = true := by simp [keyV, Value.formed, Try.underlying172, c172]
  rw [hf]
  simp [keyV, Value.cells, Program.keyLits, Try.underlying172, Try.underlying153, Try.underlying9, c172, c153, c9, hw, hs]
/-- What is remembered, in its block. -/
def SeenAt (w : World) (mb : Nat) (seen : List (Nat × List UInt8)) : Prop := (∀ x ∈ seen, okKey x) ∧ ∃ es clock, w.heap[mb]? = some (.map es clock) ∧ es.toList.map (fun e => (e.key, e.val)) = seen.reverse.map (fun x => (keyV x, Value.int .i64 1))
theorem SeenAt.keep {w W : World} {mb : Nat} {seen : List (Nat × List UInt8)} (h : SeenAt w mb seen) (hk : W.heap[mb]? = w.heap[mb]?) : SeenAt W mb seen := by
  obtain ⟨h1, es, clock, h2, h3⟩ := h
  exact ⟨h1, es, clock, hk.trans h2, h3⟩
theorem seen_entry {es : Array MapEntry} {seen : List (Nat × List UInt8)} (h : es.toList.map (fun e => (e.key, e.val)) = seen.reverse.map (fun x => (keyV x, Value.int .i64 1))) {e : MapEntry} (he : e ∈ es.toList) : ∃ x ∈ seen, e.key = keyV x ∧ e.val = .int .i64 1 := by
  have : (e.key, e.val) ∈ seen.reverse.map (fun x => (keyV x, Value.int .i64 1)) := by rw [← h]; exact List.mem_map_of_mem he
  obtain ⟨x, hx, hex⟩ := List.mem_map.1 this
  simp only [Prod.mk.injEq] at hex
  exact ⟨x, List.mem_reverse.1 hx, hex.1.symm, hex.2.symm⟩
theorem seen_find (w : World) {es : Array MapEntry} {seen : List (Nat × List UInt8)} (hok : ∀ x ∈ seen, okKey x) (h : es.toList.map (fun e => (e.key, e.val)) = seen.reverse.map (fun x => (keyV x, Value.int .i64 1))) {x : Nat × List UInt8} (hx : okKey x) :
    (x ∉ seen ∧ (Instr.findKey 172 (keyV x) es.toList).run Try.prog w = .ok none w) ∨ (x ∈ seen ∧ ∃ j, (Instr.findKey 172 (keyV x) es.toList).run Try.prog w = .ok (some (j, .int .i64 1)) w) := by
  obtain ⟨kl, hkl⟩ := keyOf_ok hx
  rcases Try_law.find w hkl es.toList (fun e he => by obtain ⟨y, hy, e1, _⟩ := seen_entry h he; rw [e1]; exact keyOf_ok (hok y hy)) with ⟨h1, h2⟩ | ⟨j, e, h1, h2, h3⟩
  · refine .inl ⟨fun hm => ?_, h1⟩
    have : (keyV x, Value.int .i64 1) ∈ es.toList.map (fun e => (e.key, e.val)) := by rw [h]; exact List.mem_map_of_mem (f := fun x => (keyV x, Value.int .i64 1)) (List.mem_reverse.2 hm)
    obtain ⟨e, he, hee⟩ := List.mem_map.1 this
    simp only [Prod.mk.injEq] at hee
    exact h2 e he hee.1
  · obtain ⟨y, hy, e1, e2⟩ := seen_entry h (List.mem_of_getElem? h2)
    have : y = x := keyV_inj (e1.symm.trans h3)
    subst this
    exact .inr ⟨hy, j, by rw [h1, e2]⟩
theorem run_seen_look {w : World} {mb : Nat} {seen : List (Nat × List UInt8)} (h : SeenAt w mb seen) {x : Nat × List UInt8} (hx : okKey x) :
    (Instr.lookup 152 (.map (some mb)) (keyV x) false).run Try.prog w = .ok (.int .i64 (if x ∈ seen then 1 else 0)) w := by
  obtain ⟨hok, es, clock, hb, hes⟩ := h
  obtain ⟨kl, hkl⟩ := keyOf_ok hx
  have hz : (zeroValue 3).run Try.prog w = .ok (.int .i64 0) w := by kernel_rfl
  have hc := fun em => Try_law.check w em hkl
  rcases seen_find w hok hes hx with ⟨hn, h1⟩ | ⟨hm, j, h1⟩
  · rw [if_neg hn]
    simp [Instr.lookup, run_underlying Try.underlying152, MapKept.run_getObj_map hb, hc, h1, hz, Result.andThen]
  · rw [if_pos hm]
    simp [Instr.lookup, run_underlying Try.underlying152, MapKept.run_getObj_map hb, hc, h1, Result.andThen]
theorem run_seen_put {w : World} {mb : Nat} {seen : List (Nat × List UInt8)} (h : SeenAt w mb seen) {x : Nat × List UInt8} (hx : okKey x) (hn : x ∉ seen) :
    ∃ W, (Instr.mapUpdate 152 (.map (some mb)) (keyV x) (.int .i64 1)).run Try.prog w = .ok () W ∧ SeenAt W mb (x :: seen) ∧ w.grownBy W (some mb) := by
  obtain ⟨hok, es, clock, hb, hes⟩ := h
  obtain ⟨kl, hkl⟩ := keyOf_ok hx
  have hc := fun em => Try_law.check w em hkl
  rcases seen_find w hok hes hx with ⟨_, h1⟩ | ⟨hm, _⟩
  · refine ⟨ChangeMaps.setBlock w mb (.map (es.push { key := keyV x, val := .int .i64 1, born := clock }) (clock + 1)), by simp [Instr.mapUpdate, run_underlying Try.underlying152, MapKept.run_getObj_map hb, hc, h1, MapKept.run_setObj_map _ hb, Result.andThen, ChangeMaps.setBlock], ⟨?_, _, _, ChangeMaps.heap_setBlock_same hb _, ?_⟩, ⟨rfl, rfl, rfl, by simp [ChangeMaps.setBlock], fun i _ hi => ChangeMaps.heap_setBlock_other hb _ (fun e => hi (by rw [e]))⟩⟩
    · intro y hy
      rcases List.mem_cons.1 hy with rfl | hy
      · exact hx
      · exact hok y hy
    · simp [hes]
  · exact absurd hm hn
end Go.Proofs.Ytkoiffkonjpoiaa.Q
