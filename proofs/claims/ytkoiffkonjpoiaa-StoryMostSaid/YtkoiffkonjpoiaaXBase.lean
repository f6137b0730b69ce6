/- Rows of flat elements (an element's cells are given by a function of the element): how a row that is read, and a row of the call's own, is told cell by cell. No condition. -/
import Derived.Test.YtkoiffkonjpoiaaWMore
import Derived.WalkKit
import Derived.WalkSpells
import Derived.WalkLawsBesides
import Derived.Lib.Hide
import Derived.Lib.Walk
import Derived.Lib.SliceRun
import Derived.Lib.JoinLaws
import Derived.Lib.AppendZeros
import Derived.Laws.Externs
import Derived.Laws.IdiomCopy
import Derived.Lib.AppendZerosOnto
import Derived.Laws.NewBlocks
import Derived.Laws.Append
import Derived.Outline
import Derived.Deep.RegionWith
import Derived.StillTailTactics
import Derived.KernelRfl
set_option linter.unusedVariables false
set_option linter.unusedSimpArgs false
namespace Go.Proofs.YtkoiffkonjpoiaaX
open Go.RowKit Go.Proofs.YtkoiffkonjpoiaaW.PrintWords Go.Proofs.YtkoiffkonjpoiaaW.PrintLast Go.Proofs.YtkoiffkonjpoiaaW.PrintMore

/-- An element's cells are a function of the element, in whatever world. -/
structure Flat {α : Type} (d : Kd α) (enc : α → List Value) : Prop where
  K : ∀ w x cs, d.K w x cs ↔ cs = enc x
  M : ∀ w base ok x cs, d.M w base ok x cs ↔ cs = enc x
  len : ∀ x, (enc x).length = d.sz
  pos : 0 < d.sz

theorem flat_int (k : IntKind) : Flat (Kd.int k) (fun x => [.int k x]) := ⟨fun _ _ _ => Iff.rfl, fun _ _ _ _ _ => Iff.rfl, fun _ => rfl, Nat.one_pos⟩

section
variable {α : Type} {d : Kd α} {enc : α → List Value} {e base : Nat} {w w1 : World} {ok : Nat → Prop} {v : Value} {xs : List α}

theorem Flat.one (F : Flat d enc) (x : α) : ∀ u ∈ enc x, u.oneCell' = true := d.K_one ((F.K default x _).2 rfl)
theorem flatMap_length (F : Flat d enc) (xs : List α) : (xs.flatMap enc).length = xs.length * d.sz := by
  induction xs with
  | nil => simp
  | cons x xs ih => rw [List.flatMap_cons, List.length_append, ih, F.len, List.length_cons, Nat.add_mul, Nat.one_mul, Nat.add_comm]
theorem Flat.ones (F : Flat d enc) (xs : List α) : ∀ u ∈ xs.flatMap enc, u.oneCell' = true := by
  intro u hu
  obtain ⟨x, _, hx⟩ := List.mem_flatMap.1 hu
  exact F.one x u hx
theorem flatMap_drop (F : Flat d enc) (xs : List α) (j : Nat) : (xs.flatMap enc).drop (j * d.sz) = (xs.drop j).flatMap enc := by
  induction j generalizing xs with
  | zero => simp
  | succ j ih =>
    cases xs with
    | nil => simp
    | cons x xs =>
      rw [List.flatMap_cons, Nat.add_mul, Nat.one_mul, Nat.add_comm, ← List.drop_drop, List.drop_left' (F.len x), ih]
      rfl
theorem flatMap_take (F : Flat d enc) (xs : List α) (j : Nat) : (xs.flatMap enc).take (j * d.sz) = (xs.take j).flatMap enc := by
  induction j generalizing xs with
  | zero => simp
  | succ j ih =>
    cases xs with
    | nil => simp
    | cons x xs =>
      rw [List.flatMap_cons, Nat.add_mul, Nat.one_mul, Nat.add_comm, List.take_add, List.take_left' (F.len x), List.drop_left' (F.len x), ih, List.take_succ_cons, List.flatMap_cons]
theorem flatMap_at (F : Flat d enc) (xs : List α) (j : Nat) (x : α) (h : xs[j]? = some x) : ((xs.flatMap enc).drop (j * d.sz)).take d.sz = enc x := by
  rw [flatMap_drop F]
  obtain ⟨hj, rfl⟩ := List.getElem?_eq_some_iff.1 h
  rw [List.drop_eq_getElem_cons hj, List.flatMap_cons, List.take_left' (F.len _)]
theorem flatMap_get (F : Flat d enc) (xs : List α) (j i : Nat) (x : α) (u : Value) (h : xs[j]? = some x) (hu : (enc x)[i]? = some u) : (xs.flatMap enc)[j * d.sz + i]? = some u := by
  have h1 := flatMap_at F xs j x h
  have hi : i < d.sz := by rw [← F.len x]; exact (List.getElem?_eq_some_iff.1 hu).1
  rw [← h1, List.getElem?_take, if_pos hi, List.getElem?_drop] at hu
  exact hu
/-- Which element a cell belongs to. -/
theorem flatMap_inv (F : Flat d enc) (xs : List α) (k : Nat) (u : Value) (h : (xs.flatMap enc)[k]? = some u) : ∃ j i x, k = j * d.sz + i ∧ i < d.sz ∧ xs[j]? = some x ∧ (enc x)[i]? = some u := by
  have hp := F.pos
  have hk := (List.getElem?_eq_some_iff.1 h).1
  rw [flatMap_length F] at hk
  have hj : k / d.sz < xs.length := (Nat.div_lt_iff_lt_mul hp).2 hk
  have hd : k = k / d.sz * d.sz + k % d.sz := by rw [Nat.mul_comm]; exact (Nat.div_add_mod k d.sz).symm
  refine ⟨k / d.sz, k % d.sz, xs[k / d.sz], hd, Nat.mod_lt _ hp, List.getElem?_eq_getElem hj, ?_⟩
  have h1 := flatMap_at F xs (k / d.sz) _ (List.getElem?_eq_getElem hj)
  rw [← h1, List.getElem?_take, if_pos (Nat.mod_lt _ hp), List.getElem?_drop, ← hd]
  exact h

theorem reps_flat (F : Flat d enc) {R : α → List Value → Prop} (hR : ∀ x cs, R x cs ↔ cs = enc x) {cs : List Value} : Reps R d.sz xs cs ↔ cs = xs.flatMap enc := by
  constructor
  · rintro ⟨hl, hc⟩
    refine List.ext_getElem? fun k => ?_
    rcases Nat.lt_or_ge k (xs.length * d.sz) with hk | hk
    · have h1 : k < (xs.flatMap enc).length := by rw [flatMap_length F]; exact hk
      obtain ⟨j, i, x, rfl, hi, hx, hu⟩ := flatMap_inv F xs k _ (List.getElem?_eq_getElem h1)
      rw [List.getElem?_eq_getElem h1]
      have h2 := (hR _ _).1 (hc j x hx)
      rw [← h2, List.getElem?_take, if_pos hi, List.getElem?_drop] at hu
      exact hu
    · rw [List.getElem?_eq_none (by omega), List.getElem?_eq_none (by rw [flatMap_length F]; omega)]
  · rintro rfl
    exact ⟨flatMap_length F xs, fun j x hx => (hR _ _).2 (flatMap_at F xs j x hx)⟩

theorem R_iff (F : Flat d enc) : d.R e w base ok v xs ↔ (∀ k, v.ownBlock = some k → ok k) ∧ w.ownsRow base e d.sz v xs.length (xs.flatMap enc) := by
  unfold Kd.R OwnRow
  constructor
  · rintro ⟨h, inner, ho, hr⟩
    exact ⟨h, by rw [← (reps_flat F (fun x cs => F.M _ _ _ x cs)).1 hr]; exact ho⟩
  · rintro ⟨h, ho⟩
    exact ⟨h, _, ho, (reps_flat F (fun x cs => F.M _ _ _ x cs)).2 rfl⟩

/-- A row that is read, told cell by cell. -/
def At (w : World) (A : Option Addr) (cs : List Value) : Prop := cs = [] ∨ ∃ b o, A = some ⟨b, o, none⟩ ∧ ∀ j u, cs[j]? = some u → w.cell? ⟨b, o + j, none⟩ = some u

theorem add_at {ad : Addr} {u : Value} (h : w.cell? ad = some u) : ∃ b o, ad = ⟨b, o, none⟩ := by
  obtain ⟨b, o, s⟩ := ad
  cases s with
  | none => exact ⟨b, o, rfl⟩
  | some s =>
    unfold World.cell? at h
    split at h
    · simp at h
    · cases h
theorem add_lit' (b o j : Nat) : (⟨b, o, none⟩ : Addr).add j = ⟨b, o + j, none⟩ := by
  unfold Addr.add
  split
  · subst_vars; rfl
  · rfl

theorem C_iff (F : Flat d enc) {A : Option Addr} (hm : xs.length ≤ 9223372036854775807) : d.C w A xs.length xs ↔ At w A (xs.flatMap enc) := by
  have hp := F.pos
  constructor
  · rintro ⟨_, _, h⟩
    rcases Nat.eq_zero_or_pos xs.length with h0 | h0
    · rw [List.eq_nil_of_length_eq_zero h0]; exact .inl rfl
    · obtain ⟨ad, rfl, hc⟩ := h h0
      have hcell : ∀ j u, (xs.flatMap enc)[j]? = some u → w.cell? (ad.add j) = some u := by
        intro k u hu
        obtain ⟨j, i, x, rfl, hi, hx, hu'⟩ := flatMap_inv F xs k u hu
        obtain ⟨c, hl, hK, hcc⟩ := hc j x hx
        rw [(F.K _ _ _).1 hK] at hcc
        exact hcc i u hu'
      have hl : 0 < (xs.flatMap enc).length := by rw [flatMap_length F]; exact Nat.mul_pos h0 hp
      have h1 := hcell 0 _ (List.getElem?_eq_getElem hl)
      obtain ⟨b, o, rfl⟩ := add_at (show w.cell? ad = some _ by simpa [Addr.add] using h1)
      exact .inr ⟨b, o, rfl, fun j u hu => by rw [← add_lit']; exact hcell j u hu⟩
  · rintro (h | ⟨b, o, rfl, h⟩)
    · have h0 : xs.length = 0 := by
        have := flatMap_length F xs
        rw [h] at this
        rcases Nat.mul_eq_zero.1 this.symm with h1 | h1
        · exact h1
        · omega
      exact ⟨rfl, hm, fun h1 => by omega⟩
    · exact ⟨rfl, hm, fun _ => ⟨_, rfl, fun j x hx => ⟨enc x, F.len x, (F.K _ _ _).2 rfl, fun i u hu => by rw [add_lit']; exact h _ u (flatMap_get F xs j i x u hx hu)⟩⟩⟩
theorem C_len {A : Option Addr} {n : Nat} (h : d.C w A n xs) : xs.length ≤ 9223372036854775807 := by have := h.1; have := h.2.1; omega
theorem C_at (F : Flat d enc) {A : Option Addr} (h : d.C w A xs.length xs) : At w A (xs.flatMap enc) := (C_iff F (C_len h)).1 h
end

theorem setCells_heap_ne (b : Nat) : ∀ (vs : List Value) (o : Nat) (w : World) (k : Nat), k ≠ b → (w.setCells b o vs).heap[k]? = w.heap[k]?
  | [], _, _, _, _ => rfl
  | v :: r, o, w, k, h => by
    rw [World.setCells, setCells_heap_ne b r _ _ k h]
    exact Below.heap_setCell w _ v k h
theorem setCells_size (b : Nat) : ∀ (vs : List Value) (o : Nat) (w : World), (w.setCells b o vs).heap.size = w.heap.size
  | [], _, _ => rfl
  | v :: r, o, w => by rw [World.setCells, setCells_size b r]; simp [World.setCell]
theorem setCell_heap_at (w : World) (b o : Nat) (v : Value) {cur : Array Value} {e : TypeId} {fr : Nat × Nat} (h : w.heap[b]? = some (.cells cur e fr)) : (w.setCell ⟨b, o, none⟩ v).heap[b]? = some (.cells (cur.setIfInBounds o v) e fr) := by
  have hb : b < w.heap.size := (Array.getElem?_eq_some_iff.1 h).1
  unfold World.setCell
  simp only [Array.getElem?_modify, h]
  simp
theorem setCells_heap_at (b : Nat) : ∀ (vs : List Value) (o : Nat) (w : World) (cur : Array Value) (e : TypeId) (fr : Nat × Nat), w.heap[b]? = some (.cells cur e fr) → o + vs.length ≤ cur.size →
    ∃ cur', (w.setCells b o vs).heap[b]? = some (.cells cur' e fr) ∧ cur'.size = cur.size ∧ cur'.toList = cur.toList.take o ++ vs ++ cur.toList.drop (o + vs.length)
  | [], o, w, cur, e, fr, h, hl => ⟨cur, h, rfl, by simp⟩
  | v :: r, o, w, cur, e, fr, h, hl => by
    simp only [List.length_cons] at hl
    obtain ⟨cur', h1, h2, h3⟩ := setCells_heap_at b r (o + 1) _ _ e fr (setCell_heap_at w b o v h) (by simp; omega)
    refine ⟨cur', h1, by rw [h2]; simp, ?_⟩
    rw [h3]
    have ho : o < cur.toList.length := by simp; omega
    have e1 : (cur.setIfInBounds o v).toList.take (o + 1) = cur.toList.take o ++ [v] := by
      simp only [Array.toList_setIfInBounds]
      rw [List.take_add_one]
      simp [List.getElem?_set_self ho, List.take_set_of_le]
    have e2 : (cur.setIfInBounds o v).toList.drop (o + 1 + r.length) = cur.toList.drop (o + (v :: r).length) := by
      simp only [Array.toList_setIfInBounds, List.length_cons]
      rw [List.drop_set_of_lt (by omega)]
      congr 1
      omega
    rw [e1, e2]
    simp
theorem setCells_rest (b : Nat) : ∀ (vs : List Value) (o : Nat) (w : World), (w.setCells b o vs).os = w.os ∧ (w.setCells b o vs).tape = w.tape ∧ (w.setCells b o vs).output = w.output
  | [], _, _ => ⟨rfl, rfl, rfl⟩
  | v :: r, o, w => by rw [World.setCells]; exact setCells_rest b r _ _
theorem bel_setCells {B b : Nat} {w W : World} (h : Below B w W) (hb : B ≤ b) (o : Nat) (vs : List Value) : Below B w (W.setCells b o vs) := by
  obtain ⟨h1, h2, h3⟩ := setCells_rest b vs o W
  exact ⟨h1.trans h.os, h2.trans h.tape, h3.trans h.output, by rw [setCells_size]; exact h.size, fun k hk => (setCells_heap_ne b vs o W k (by omega)).trans (h.block k hk)⟩
theorem kep_setCells {b : Nat} {w W : World} {S : Nat → Prop} (h : Kept w W S) (hb : S b) (o : Nat) (vs : List Value) : Kept w (W.setCells b o vs) S :=
  ⟨by rw [setCells_size]; exact h.1, fun i hi hn => (setCells_heap_ne b vs o W i (fun e => hn (e ▸ hb))).trans (h.2 i hi hn)⟩
theorem cells_cell {w : World} {g : Nat} {cur : Array Value} {e : TypeId} (h : w.heap[g]? = some (.cells cur e (0, 0))) (k : Nat) : w.cell? ⟨g, k, none⟩ = cur.toList[k]? := by
  simp [World.cell?, h]
theorem cells_free {w : World} {g : Nat} {cur : Array Value} {e : TypeId} (h : w.heap[g]? = some (.cells cur e (0, 0))) (k : Nat) : w.frozen? ⟨g, k, none⟩ = false := by
  simp [World.frozen?, h]
theorem cells_some {w : World} {g : Nat} {cur : Array Value} {e : TypeId} (h : w.heap[g]? = some (.cells cur e (0, 0))) {k : Nat} (hk : k < cur.size) : (w.cell? ⟨g, k, none⟩).isSome = true := by
  rw [cells_cell h, List.getElem?_eq_getElem (by simpa using hk)]
  rfl
/-- What 'clear' writes. -/
theorem run_clear_cells {P : Program} (w : World) (t e ty : TypeId) (z : Value) (ht : P.underlying t = some (.slice e)) (hv : ∀ w, (zeroValue e).run P w = .ok z w) (b o n c : Nat) (hn : 0 < n)
    (h1 : ∀ v ∈ (Builtin.zeroCells z.cells n).toList, v.oneCell' = true)
    (hc : ∀ j, j < (Builtin.zeroCells z.cells n).toList.length → (w.cell? ⟨b, o + j, none⟩).isSome = true) (hf : ∀ j, j < (Builtin.zeroCells z.cells n).toList.length → w.frozen? ⟨b, o + j, none⟩ = false) :
    (Builtin.clear_ #[t] ty #[.slice (some ⟨b, o, none⟩) n c]).run P w = .ok (.tuple #[]) (w.setCells b o (Builtin.zeroCells z.cells n).toList) := by
  have hst := run_storeCells_cells (P := P) b o (Builtin.zeroCells z.cells n).toList 0 w (by simpa using hc) (by simpa using hf) h1
  simp only [Nat.add_zero] at hst
  obtain ⟨m, rfl⟩ : ∃ m, n = m + 1 := ⟨n - 1, by omega⟩
  simp [Builtin.clear_, run_underlying ht, hv, hst]
theorem zeroCells_len (cs : Array Value) (n : Nat) : (Builtin.zeroCells cs n).toList.length = n * cs.size := by
  simp [Builtin.zeroCells]
theorem zeroCells_one (cs : Array Value) (n : Nat) (h : ∀ v ∈ cs.toList, v.oneCell' = true) : ∀ v ∈ (Builtin.zeroCells cs n).toList, v.oneCell' = true := by
  intro v hv
  obtain ⟨k, hk, rfl⟩ := List.getElem_of_mem hv
  simp [Builtin.zeroCells] at hk ⊢
  have hp : 0 < cs.size := by
    rcases Nat.eq_zero_or_pos cs.size with h0 | h0
    · rw [h0] at hk; omega
    · exact h0
  apply h
  have hm := Nat.mod_lt k hp
  rw [getElem!_pos cs (k % cs.size) hm]
  simp

theorem run_copy_K {P : Program} (w : World) (dT sT ty elem : TypeId) (i : TypeInfo) (b o dLen dCap : Nat) (a : Addr) (sLen sCap : Nat) (cs : List Value)
    (hu : P.underlying dT = some (.slice elem)) (hq : P.info? elem = some i) (hn : cs.length = Nat.min sLen dLen * i.size)
    (hsrc : ∀ j v, cs[j]? = some v → w.cell? (a.add j) = some v) (hc : ∀ j, j < cs.length → (w.cell? ⟨b, o + j, none⟩).isSome = true) (hf : ∀ j, j < cs.length → w.frozen? ⟨b, o + j, none⟩ = false) (h1 : ∀ v ∈ cs, v.oneCell' = true) :
    (Builtin.copy_ #[dT, sT] ty #[.slice (some ⟨b, o, none⟩) dLen dCap, .slice (some a) sLen sCap]).run P w = .ok (goInt (Nat.min sLen dLen)) (w.setCells b o cs) := by
  have hl := run_loadCells_list (P := P) w a cs hsrc
  have hst := run_storeCells_cells (P := P) b o cs 0 w (by simpa using hc) (by simpa using hf) h1
  simp [Builtin.copy_, run_underlying hu, Builtin.lenOf, Builtin.firstCells, Go.sizeOf, typeInfo, hq, ← hn, hl, hst]
theorem wpx_copy {P : Program} (w : World) {ops : Array Oper} {rest : List Oper} {o : Oper} {a : Act} {Q : Exit → Act → World → Prop} (hgd : o.guard = none) (d s : Operand) (t t' : TypeId)
    (ho : o.op = .call { callee := .builtin .copy, args := #[d, s], argTypes := #[t, t'] }) (v u : Value) (hd : a.eval d = v) (hs : a.eval s = u) {v' : Value} {w' : World}
    (hr : (Builtin.copy_ #[t, t'] o.type #[v, u]).run P w = .ok v' w') (h : wpList P ops Q rest (a.put o.dst v') w') : wpList P ops Q (o :: rest) a w :=
  wpList_plain hgd fun _ hK => by
    unfold Oper.wp execOp
    simp only [ho, resolve, invoke, builtin, Sem.run_bind, Sem.run_pure, Result.andThen_ok, List.map_toArray, List.map_cons, List.map_nil, hd, hs, hr]
    exact hK _ _ h
theorem stepx_copy {P : Program} {ops : Array Oper} {o : Oper} {a : Act} {w : World} {K : Act → World → Prop} {Q : Exit → Act → World → Prop} {E : Prop}
    (hg : o.guard = none) (d x : Operand) (dT sT : TypeId) (hop : o.op = Op.call { callee := Callee.builtin Builtin.copy, args := #[d, x], argTypes := #[dT, sT] })
    (v u : Value) (hd : a.eval d = v) (hx : a.eval x = u) {v' : Value} {w' : World} (hr : (Builtin.copy_ #[dT, sT] o.type #[v, u]).run P w = .ok v' w') (hK : K (a.put o.dst v') w') :
    if Region.wanted o (yielded ops a.tmps) = true then Oper.wp P o a w K Q else E := by
  have hw : Region.wanted o (yielded ops a.tmps) = true := by simp [Region.wanted, hg]
  rw [if_pos hw]
  unfold Oper.wp
  simp [execOp, hop, resolve, invoke, builtin, hd, hx, hr, Result.andThen]
  exact hK
/-- Two rows in two blocks of which the second is plain memory with a cell at least: they don't overlap. -/
theorem run_overlaps_x {P : Program} (w : World) (tS tR e : TypeId) (ht : P.underlying tS = some (.slice e)) (size : Nat) (hz : ∀ w, (Go.sizeOf e).run P w = .ok size w)
    (a b : Addr) (la ca lb cb : Nat) (hne : a.block ≠ b.block) (tA tB : TypeId) (kA kB : Nat)
    (hsa : w.shape? a.block = some (tA, kA)) (hsb : w.shape? b.block = some (tB, kB)) (hkB : kB ≠ 0) (hkA : kA ≠ 0)
    (hfb : ∀ k, w.frozen? { block := b.block, off := k } = false) (hbs : b.spot = none) :
    (Extern.SlicesOverlaps.overlaps #[tS, tS] #[tR] #[.slice (some a) la ca, .slice (some b) lb cb]).run P w = .ok (.bool false) w := by
  have hnb : (a.block != b.block) = true := by simpa using hne
  have hnb' : (a.block == b.block) = false := by simpa using hne
  have hfb0 : w.frozen? b = false := by
    obtain ⟨bb, bo, bs⟩ := b
    subst hbs
    exact hfb bo
  change Sem.run P (α := Value) (do
    let some t := (#[tS, tS] : Array TypeId)[0]? | stuck "slices.overlaps: no parameter types"
    let .slice elem ← underlying t | stuck "slices.overlaps: slice type expected"
    let size ← sizeOf elem
    match (some a : Option Addr), (some b : Option Addr) with
    | some a, some b =>
      if la = 0 ∨ lb = 0 ∨ size = 0 then pure (Value.bool false)
      else if a.block != b.block && (← frozen a) && (← frozen b) then unsupported .addressObserved
      else do
        if a.block != b.block then do
          noView a; noView b
          if ← mayBeOne a b then return Value.bool ((← choose (.extern "sameAddr.stringBytes" 2)) == 1)
        pure (Value.bool (a.block == b.block && a.off < b.off + lb * size && b.off < a.off + la * size))
    | _, _ => pure (Value.bool false)) w = _
  by_cases h0 : la = 0 ∨ lb = 0 ∨ size = 0
  · simp [run_underlying ht, hz, h0]
  · cases kB with
    | zero => exact absurd rfl hkB
    | succ kB =>
      cases kA with
      | zero => exact absurd rfl hkA
      | succ kA =>
      cases hfa : w.frozen? a <;> cases hfe : w.frozen? { block := a.block, off := kA + 1 } <;>
      simp [run_underlying ht, hz, h0, hnb, hnb', frozen, noView, viewAt, mayBeOne, stringish, shape, Sem.run, hsa, hsb, hfa, hfe, hfb, hfb0]

theorem grownBy_setCells (w : World) (g o : Nat) (vs : List Value) : w.grownBy (w.setCells g o vs) (some g) := by
  obtain ⟨h1, h2, h3⟩ := setCells_rest g vs o w
  exact ⟨h1, h2, h3, Nat.le_of_eq (setCells_size g vs o w).symm, fun k hk hn => setCells_heap_ne g vs o w k (fun e => hn (by rw [e]))⟩
theorem grownBy_drew_alloc (w : World) (o : Obj) (row : Option Nat) : w.grownBy (w.drew.alloc o) row := by
  have h := World.grownBy_alloc w.drew o row
  exact ⟨h.os, h.tape, h.output, h.size, h.block⟩
theorem run_append_own_x {P : Program} (w : World) (t tx ty e : TypeId) (i : TypeInfo) (z : Value) (size bytes : Nat) (ht : P.underlying t = some (.slice e)) (htx : P.underlying tx = some (.slice e)) (hi : P.info? e = some i) (hz : i.zero = some z) (hsize : i.size = size) (hby : i.bytes = bytes) (hzs : z.cells.size = size) (hsz : 0 < size) (hb0 : 0 < bytes)
    (base : Nat) (v : Value) (n : Nat) (xs : List Value) (hown : w.ownsRow base e size v n xs) (ad : Addr) (m c : Nat) (news : List Value) (hl : news.length = m * size) (hnews : ∀ j u, news[j]? = some u → w.cell? (ad.add j) = some u) (h1 : ∀ u ∈ news, u.oneCell' = true)
    (hbytes : (n + m) * bytes ≤ 140737488355328) (hbase : base ≤ w.heap.size) :
    ∃ v' w', (Builtin.append_ #[t, tx] ty #[v, .slice (some ad) m c]).run P w = .ok v' w' ∧ w'.ownsRow base e size v' (n + m) (xs ++ news) ∧ w.grownBy w' v.ownBlock ∧ (v'.ownBlock = v.ownBlock ∨ ∃ b, v'.ownBlock = some b ∧ w.heap.size ≤ b) := by
  have hsrc : Src P i.size tx (.slice (some ad) m c) m news w := by
    rw [hsize]
    exact Src.ofSlice w htx ad m c news hl hnews h1
  have hnm : n + m ≤ 140737488355328 := Nat.le_trans (Nat.le_mul_of_pos_right _ hb0) hbytes
  have hml : n + m ≤ maxLen := by simp only [maxLen]; omega
  obtain ⟨hxl, hv⟩ := hown
  have newblk : ∀ (olds : List Value) (G : Nat), olds = xs → n + m ≤ G → G ≤ maxLen → (w.drew.alloc (.cells ((olds ++ news).toArray ++ Builtin.zeroCells z.cells (G - (n + m))) e)).ownsRow base e size (.slice (some ⟨w.heap.size, 0, none⟩) (n + m) G) (n + m) (xs ++ news) := by
    intro olds G ho hG hG2
    subst ho
    refine ⟨by rw [List.length_append, hxl, hl, Nat.add_mul], .inr ⟨w.heap.size, G, _, rfl, hbase, heap_alloc_new w.drew _, hG, hG2, ?_, ?_⟩⟩
    · simp only [Array.size_append, List.size_toArray, List.length_append, hxl, hl]
      rw [← Array.length_toList (xs := Builtin.zeroCells _ _), zeroCells_len, hzs, ← Nat.add_mul, ← Nat.add_mul]
      congr 1
      omega
    · simp only [Array.toList_append]
      rw [List.take_left']
      simp [hxl, hl, Nat.add_mul]
  rcases hv with ⟨rfl, rfl⟩ | ⟨g, cap, cur, rfl, hb, hg, hn, hm, hcs, htk⟩
  · have hx0 : xs = [] := List.eq_nil_of_length_eq_zero (by rw [hxl]; simp)
    subst hx0
    rcases Nat.eq_zero_or_pos m with h0 | h0
    · subst h0
      have hne : news = [] := List.eq_nil_of_length_eq_zero (by rw [hl]; simp)
      subst hne
      refine ⟨.slice none 0 0, w, ?_, ⟨by simp, .inl ⟨rfl, rfl⟩⟩, World.grownBy.refl _ _, .inl rfl⟩
      have hf : (Builtin.firstCells size 0 (.slice (some ad) 0 c)).run P w = .ok #[] w := by have := hsrc.cells; rw [hsize] at this; exact this
      simp [Builtin.append_, run_underlying ht, run_underlying htx, Go.sizeOf, typeInfo, hi, hsize, Builtin.lenOf, hf]
    · refine ⟨_, _, run_append_grow_src w t tx ty e i z ht hi hz none 0 0 [] (run_firstCells_none w.drew i.size 0 0 0) _ m news hsrc (by omega) (by omega) (by rw [hby]; exact growslice_fits (by omega) hbytes), ?_, ?_, .inr ⟨_, rfl, Nat.le_refl _⟩⟩
      · exact newblk [] _ rfl (grownCap_ge w _ _ _) (grownCap_le_maxLen w _ _ _ hml)
      · exact grownBy_drew_alloc w _ _
  · by_cases hroom : n + m ≤ cap
    · obtain ⟨cur', k1, k2, k3⟩ := setCells_heap_at g news (0 + n * i.size) w cur e (0, 0) hg (by rw [hl, hsize, hcs, Nat.zero_add, ← Nat.add_mul]; exact Nat.mul_le_mul_right _ hroom)
      have hle : news.length + n * size ≤ cap * size := by rw [hl, Nat.add_comm, ← Nat.add_mul]; exact Nat.mul_le_mul_right _ hroom
      refine ⟨_, _, run_append_room_src w t tx ty e i ht hi g 0 n cap _ m news hsrc hroom (fun j hj => cells_some hg (by rw [hcs, hsize]; omega)) (fun j _ => cells_free hg _), ?_, grownBy_setCells w g _ _, .inl rfl⟩
      refine ⟨by rw [List.length_append, hxl, hl, Nat.add_mul], .inr ⟨g, cap, cur', rfl, hb, k1, hroom, hm, by rw [k2, hcs], ?_⟩⟩
      rw [k3, hsize, Nat.zero_add, htk, Nat.add_mul, ← hl]
      rw [show n * size = xs.length from hxl.symm, ← List.length_append]
      exact List.take_left' rfl
    · refine ⟨_, _, run_append_grow_src w t tx ty e i z ht hi hz (some ⟨g, 0, none⟩) n cap xs ?_ _ m news hsrc (by omega) (by simp only [maxLen] at hml; omega) (by rw [hby]; exact growslice_fits (by omega) hbytes), ?_, ?_, .inr ⟨_, rfl, Nat.le_refl _⟩⟩
      · refine run_firstCells_some w.drew i.size n ⟨g, 0, none⟩ n cap xs (by rw [hsize]; exact hxl) (fun j u hj => ?_)
        rw [add_lit', Nat.zero_add]
        show w.cell? _ = _
        rw [cells_cell hg]
        rw [← htk, List.getElem?_take] at hj
        split at hj
        · exact hj
        · cases hj
      · exact newblk xs _ rfl (grownCap_ge w _ _ _) (grownCap_le_maxLen w _ _ _ hml)
      · exact grownBy_drew_alloc w _ _

/-- What reads so whatever becomes of the blocks of P lies in none of them. -/
theorem apart_of_kept {α : Type} {d : Kd α} {enc : α → List Value} (F : Flat d enc) {w : World} {P : Nat → Prop} {g vb vo : Nat} {xs : List α} (hP : P g) (hne : xs ≠ []) (h : ∀ W_, Kept w W_ P → d.C W_ (some ⟨vb, vo, none⟩) xs.length xs) : vb ≠ g := by
  rintro rfl
  have hk : Kept w { w with heap := w.heap.modify vb (fun _ => .cells #[] 0 (0, 0)) } P := by
    refine ⟨by simp, fun i hi hn => ?_⟩
    simp only [Array.getElem?_modify]
    rw [if_neg (show ¬ (vb = i) from fun e => hn (by rw [← e]; exact hP))]
  have hl : 0 < (xs.flatMap enc).length := by
    rw [flatMap_length F]
    exact Nat.mul_pos (List.length_pos_iff.2 hne) F.pos
  rcases C_at F (h _ hk) with h0 | ⟨b, o, hb, hc⟩
  · rw [h0] at hl; simp at hl
  · obtain ⟨rfl, rfl⟩ : vb = b ∧ vo = o := by simpa using hb
    have h1 := hc 0 _ (List.getElem?_eq_getElem hl)
    simp only [World.cell?, Array.getElem?_modify, if_true] at h1
    cases hq : w.heap[vb]? with
    | none => rw [hq] at h1; simp at h1
    | some ob => rw [hq] at h1; simp at h1
end Go.Proofs.YtkoiffkonjpoiaaX
