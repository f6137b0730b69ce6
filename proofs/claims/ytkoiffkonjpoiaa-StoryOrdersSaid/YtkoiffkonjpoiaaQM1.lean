/- Several texts of this claim in one: contracts of the program's functions, and plain lemmas about what they compute; each is stated under its own conditions. -/
import Derived.Test.YtkoiffkonjpoiaaWMore
import Derived.WalkKit
import Derived.WalkSpells
import Derived.WalkLawsBesides
import Derived.Lib.Hide
import Derived.Lib.Walk
import Derived.Lib.SliceRun
import Derived.Lib.JoinLaws
import Derived.Lib.AppendZeros
import Derived.Laws.Externs
import Derived.Laws.IdiomCopy
import Derived.Lib.AppendZerosOnto
import Derived.Laws.NewBlocks
import Derived.Laws.Append
import Derived.Outline
import Derived.Deep.RegionWith
import Derived.StillTailTactics
import Derived.KernelRfl
import Derived.Test.YtkoiffkonjpoiaaProg
import Derived.Below
import Derived.Deep.Draws
import Derived.Deep.AppendLies
import Derived.Maps.AppendAt
import Derived.OwnWalk
import Derived.Laws.BytesArg
import Derived.Laws.MakeOwn
import Derived.Laws.OwnMore
import Derived.Deep.OwnRows
import Derived.Tactics
import Derived.Lib.ConvBytes
import Derived.Laws.Slices
import Derived.RowKit3
import Derived.Deep.LoopGhost
import Derived.Deep.QuietTactic
import Derived.BigQuiet
import Derived.WideLaws
import Derived.Deep.DeepCutAuto
import Derived.Deep.CutBlock
import Derived.Deep.RegionHeld3
import Derived.Laws.Rows
import Derived.Lib.AppendStr
import Derived.ArgAppend
import Derived.OrdersHeld
import Derived.Laws.BitsLemmas
import Derived.RowKit
import Derived.Test.YtkoiffkonjpoiaaWWords
import Derived.Test.YtkoiffkonjpoiaaWLast
import Derived.Test.YtkoiffkonjpoiaaWTab
import Derived.Test.YtkoiffkonjpoiaaWFour
import Derived.Test.YtkoiffkonjpoiaaWQPut
import Derived.Test.YtkoiffkonjpoiaaWApart
import Derived.Test.YtkoiffkonjpoiaaWArr
import Derived.Test.YtkoiffkonjpoiaaWZeros
import Derived.Test.YtkoiffkonjpoiaaWFoot
import Derived.Test.YtkoiffkonjpoiaaWKept
import Derived.Test.YtkoiffkonjpoiaaWShare
import Derived.Test.YtkoiffkonjpoiaaWN
import Derived.Test.YtkoiffkonjpoiaaWFootNe
import Derived.Test.YtkoiffkonjpoiaaWAt
import Derived.Test.YtkoiffkonjpoiaaWEqStruct
import Derived.Test.YtkoiffkonjpoiaaWRepsOne
import Derived.Test.YtkoiffkonjpoiaaWInv
import Derived.Test.YtkoiffkonjpoiaaWInvWords
import Derived.Test.YtkoiffkonjpoiaaWGuard
import Derived.Test.YtkoiffkonjpoiaaWNEv
set_option linter.unusedVariables false
set_option linter.unusedSimpArgs false
namespace Go.Proofs.YtkoiffkonjpoiaaX
open Go.RowKit Go.Proofs.YtkoiffkonjpoiaaW.PrintWords Go.Proofs.YtkoiffkonjpoiaaW.PrintLast Go.Proofs.YtkoiffkonjpoiaaW.PrintMore

/-- An element's cells are a function of the element, in whatever world. -/
structure Flat {α : Type} (d : Kd α) (enc : α → List Value) : Prop where
  K : ∀ w x cs,d.K w x cs ↔ cs = enc x
  M : ∀ w base ok x cs,d.M w base ok x cs ↔ cs = enc x
  len : ∀ x,(enc x).length = d.sz
  pos : 0 < d.sz

theorem flat_int (k : IntKind) : Flat (Kd.int k) (fun x => [.int k x]) := ⟨fun _ _ _ => Iff.rfl,fun _ _ _ _ _ => Iff.rfl,fun _ => rfl,Nat.one_pos⟩

section
variable {α : Type} {d : Kd α} {enc : α → List Value} {e base : Nat} {w w1 : World} {ok : Nat → Prop} {v : Value} {xs : List α}

theorem Flat.one (F : Flat d enc) (x : α) : ∀ u ∈ enc x,u.oneCell' = true := d.K_one ((F.K default x _).2 rfl)
theorem flatMap_length (F : Flat d enc) (xs : List α) : (xs.flatMap enc).length = xs.length * d.sz := by
  induction xs with
  | nil => simp
  | cons x xs ih => rw [List.flatMap_cons,List.length_append,ih,F.len,List.length_cons,Nat.add_mul,Nat.one_mul,Nat.add_comm]
theorem Flat.ones (F : Flat d enc) (xs : List α) : ∀ u ∈ xs.flatMap enc,u.oneCell' = true := by
  intro u hu
  obtain ⟨x,_,hx⟩ := List.mem_flatMap.1 hu
  exact F.one x u hx
theorem flatMap_drop (F : Flat d enc) (xs : List α) (j : Nat) : (xs.flatMap enc).drop (j * d.sz) = (xs.drop j).flatMap enc := by
  induction j generalizing xs with
  | zero => simp
  | succ j ih =>
    cases xs with
    | nil => simp
    | cons x xs =>
      rw [List.flatMap_cons,Nat.add_mul,Nat.one_mul,Nat.add_comm,← List.drop_drop,List.drop_left' (F.len x),ih]
      rfl
theorem flatMap_take (F : Flat d enc) (xs : List α) (j : Nat) : (xs.flatMap enc).take (j * d.sz) = (xs.take j).flatMap enc := by
  induction j generalizing xs with
  | zero => simp
  | succ j ih =>
    cases xs with
    | nil => simp
    | cons x xs =>
      rw [List.flatMap_cons,Nat.add_mul,Nat.one_mul,Nat.add_comm,List.take_add,List.take_left' (F.len x),List.drop_left' (F.len x),ih,List.take_succ_cons,List.flatMap_cons]
theorem flatMap_at (F : Flat d enc) (xs : List α) (j : Nat) (x : α) (h : xs[j]? = some x) : ((xs.flatMap enc).drop (j * d.sz)).take d.sz = enc x := by
  rw [flatMap_drop F]
  obtain ⟨hj,rfl⟩ := List.getElem?_eq_some_iff.1 h
  rw [List.drop_eq_getElem_cons hj,List.flatMap_cons,List.take_left' (F.len _)]
theorem flatMap_get (F : Flat d enc) (xs : List α) (j i : Nat) (x : α) (u : Value) (h : xs[j]? = some x) (hu : (enc x)[i]? = some u) : (xs.flatMap enc)[j * d.sz + i]? = some u := by
  have h1 := flatMap_at F xs j x h
  have hi : i < d.sz := by rw [← F.len x];exact (List.getElem?_eq_some_iff.1 hu).1
  rw [← h1,List.getElem?_take,if_pos hi,List.getElem?_drop] at hu
  exact hu
/-- Which element a cell belongs to. -/
theorem flatMap_inv (F : Flat d enc) (xs : List α) (k : Nat) (u : Value) (h : (xs.flatMap enc)[k]? = some u) : ∃ j i x,k = j * d.sz + i ∧ i < d.sz ∧ xs[j]? = some x ∧ (enc x)[i]? = some u := by
  have hp := F.pos
  have hk := (List.getElem?_eq_some_iff.1 h).1
  rw [flatMap_length F] at hk
  have hj : k / d.sz < xs.length := (Nat.div_lt_iff_lt_mul hp).2 hk
  have hd : k = k / d.sz * d.sz + k % d.sz := by rw [Nat.mul_comm];exact (Nat.div_add_mod k d.sz).symm
  refine ⟨k / d.sz,k % d.sz,xs[k / d.sz],hd,Nat.mod_lt _ hp,List.getElem?_eq_getElem hj,?_⟩
  have h1 := flatMap_at F xs (k / d.sz) _ (List.getElem?_eq_getElem hj)
  rw [← h1,List.getElem?_take,if_pos (Nat.mod_lt _ hp),List.getElem?_drop,← hd]
  exact h

theorem reps_flat (F : Flat d enc) {R : α → List Value → Prop} (hR : ∀ x cs,R x cs ↔ cs = enc x) {cs : List Value} : Reps R d.sz xs cs ↔ cs = xs.flatMap enc := by
  constructor
  · rintro ⟨hl,hc⟩
    refine List.ext_getElem? fun k => ?_
    rcases Nat.lt_or_ge k (xs.length * d.sz) with hk | hk
    · have h1 : k < (xs.flatMap enc).length := by rw [flatMap_length F];exact hk
      obtain ⟨j,i,x,rfl,hi,hx,hu⟩ := flatMap_inv F xs k _ (List.getElem?_eq_getElem h1)
      rw [List.getElem?_eq_getElem h1]
      have h2 := (hR _ _).1 (hc j x hx)
      rw [← h2,List.getElem?_take,if_pos hi,List.getElem?_drop] at hu
      exact hu
    · rw [List.getElem?_eq_none (by omega),List.getElem?_eq_none (by rw [flatMap_length F];omega)]
  · rintro rfl
    exact ⟨flatMap_length F xs,fun j x hx => (hR _ _).2 (flatMap_at F xs j x hx)⟩

theorem R_iff (F : Flat d enc) : d.R e w base ok v xs ↔ (∀ k,v.ownBlock = some k → ok k) ∧ w.ownsRow base e d.sz v xs.length (xs.flatMap enc) := by
  unfold Kd.R OwnRow
  constructor
  · rintro ⟨h,inner,ho,hr⟩
    exact ⟨h,by rw [← (reps_flat F (fun x cs => F.M _ _ _ x cs)).1 hr];exact ho⟩
  · rintro ⟨h,ho⟩
    exact ⟨h,_,ho,(reps_flat F (fun x cs => F.M _ _ _ x cs)).2 rfl⟩

/-- A row that is read, told cell by cell. -/
def At (w : World) (A : Option Addr) (cs : List Value) : Prop := cs = [] ∨ ∃ b o,A = some ⟨b,o,none⟩ ∧ ∀ j u,cs[j]? = some u → w.cell? ⟨b,o + j,none⟩ = some u

theorem add_at {ad : Addr} {u : Value} (h : w.cell? ad = some u) : ∃ b o,ad = ⟨b,o,none⟩ := by
  obtain ⟨b,o,s⟩ := ad
  cases s with
  | none => exact ⟨b,o,rfl⟩
  | some s =>
    unfold World.cell? at h
    split at h
    · simp at h
    · cases h
theorem add_lit' (b o j : Nat) : (⟨b,o,none⟩ : Addr).add j = ⟨b,o + j,none⟩ := by
  unfold Addr.add
  split
  · subst_vars;rfl
  · rfl

theorem C_iff (F : Flat d enc) {A : Option Addr} (hm : xs.length ≤ 9223372036854775807) : d.C w A xs.length xs ↔ At w A (xs.flatMap enc) := by
  have hp := F.pos
  constructor
  · rintro ⟨_,_,h⟩
    rcases Nat.eq_zero_or_pos xs.length with h0 | h0
    · rw [List.eq_nil_of_length_eq_zero h0];exact .inl rfl
    · obtain ⟨ad,rfl,hc⟩ := h h0
      have hcell : ∀ j u,(xs.flatMap enc)[j]? = some u → w.cell? (ad.add j) = some u := by
        intro k u hu
        obtain ⟨j,i,x,rfl,hi,hx,hu'⟩ := flatMap_inv F xs k u hu
        obtain ⟨c,hl,hK,hcc⟩ := hc j x hx
        rw [(F.K _ _ _).1 hK] at hcc
        exact hcc i u hu'
      have hl : 0 < (xs.flatMap enc).length := by rw [flatMap_length F];exact Nat.mul_pos h0 hp
      have h1 := hcell 0 _ (List.getElem?_eq_getElem hl)
      obtain ⟨b,o,rfl⟩ := add_at (show w.cell? ad = some _ by simpa [Addr.add] using h1)
      exact .inr ⟨b,o,rfl,fun j u hu => by rw [← add_lit'];exact hcell j u hu⟩
  · rintro (h | ⟨b,o,rfl,h⟩)
    · have h0 : xs.length = 0 := by
        have := flatMap_length F xs
        rw [h] at this
        rcases Nat.mul_eq_zero.1 this.symm with h1 | h1
        · exact h1
        · omega
      exact ⟨rfl,hm,fun h1 => by omega⟩
    · exact ⟨rfl,hm,fun _ => ⟨_,rfl,fun j x hx => ⟨enc x,F.len x,(F.K _ _ _).2 rfl,fun i u hu => by rw [add_lit'];exact h _ u (flatMap_get F xs j i x u hx hu)⟩⟩⟩
theorem C_len {A : Option Addr} {n : Nat} (h : d.C w A n xs) : xs.length ≤ 9223372036854775807 := by have := h.1;have := h.2.1;omega
theorem C_at (F : Flat d enc) {A : Option Addr} (h : d.C w A xs.length xs) : At w A (xs.flatMap enc) := (C_iff F (C_len h)).1 h
end

theorem setCells_heap_ne (b : Nat) : ∀ (vs : List Value) (o : Nat) (w : World) (k : Nat),k ≠ b → (w.setCells b o vs).heap[k]? = w.heap[k]?
  | [],_,_,_,_ => rfl
  | v :: r,o,w,k,h => by
    rw [World.setCells,setCells_heap_ne b r _ _ k h]
    exact Below.heap_setCell w _ v k h
theorem setCells_size (b : Nat) : ∀ (vs : List Value) (o : Nat) (w : World),(w.setCells b o vs).heap.size = w.heap.size
  | [],_,_ => rfl
  | v :: r,o,w => by rw [World.setCells,setCells_size b r];simp [World.setCell]
theorem setCell_heap_at (w : World) (b o : Nat) (v : Value) {cur : Array Value} {e : TypeId} {fr : Nat × Nat} (h : w.heap[b]? = some (.cells cur e fr)) : (w.setCell ⟨b,o,none⟩ v).heap[b]? = some (.cells (cur.setIfInBounds o v) e fr) := by
  have hb : b < w.heap.size := (Array.getElem?_eq_some_iff.1 h).1
  unfold World.setCell
  simp only [Array.getElem?_modify,h]
  simp
theorem setCells_heap_at (b : Nat) : ∀ (vs : List Value) (o : Nat) (w : World) (cur : Array Value) (e : TypeId) (fr : Nat × Nat),w.heap[b]? = some (.cells cur e fr) → o + vs.length ≤ cur.size →
    ∃ cur',(w.setCells b o vs).heap[b]? = some (.cells cur' e fr) ∧ cur'.size = cur.size ∧ cur'.toList = cur.toList.take o ++ vs ++ cur.toList.drop (o + vs.length)
  | [],o,w,cur,e,fr,h,hl => ⟨cur,h,rfl,by simp⟩
  | v :: r,o,w,cur,e,fr,h,hl => by
    simp only [List.length_cons] at hl
    obtain ⟨cur',h1,h2,h3⟩ := setCells_heap_at b r (o + 1) _ _ e fr (setCell_heap_at w b o v h) (by simp;omega)
    refine ⟨cur',h1,by rw [h2];simp,?_⟩
    rw [h3]
    have ho : o < cur.toList.length := by simp;omega
    have e1 : (cur.setIfInBounds o v).toList.take (o + 1) = cur.toList.take o ++ [v] := by
      simp only [Array.toList_setIfInBounds]
      rw [List.take_add_one]
      simp [List.getElem?_set_self ho,List.take_set_of_le]
    have e2 : (cur.setIfInBounds o v).toList.drop (o + 1 + r.length) = cur.toList.drop (o + (v :: r).length) := by
      simp only [Array.toList_setIfInBounds,List.length_cons]
      rw [List.drop_set_of_lt (by omega)]
      congr 1
      omega
    rw [e1,e2]
    simp
theorem setCells_rest (b : Nat) : ∀ (vs : List Value) (o : Nat) (w : World),(w.setCells b o vs).os = w.os ∧ (w.setCells b o vs).tape = w.tape ∧ (w.setCells b o vs).output = w.output
  | [],_,_ => ⟨rfl,rfl,rfl⟩
  | v :: r,o,w => by rw [World.setCells];exact setCells_rest b r _ _
theorem bel_setCells {B b : Nat} {w W : World} (h : Below B w W) (hb : B ≤ b) (o : Nat) (vs : List Value) : Below B w (W.setCells b o vs) := by
  obtain ⟨h1,h2,h3⟩ := setCells_rest b vs o W
  exact ⟨h1.trans h.os,h2.trans h.tape,h3.trans h.output,by rw [setCells_size];exact h.size,fun k hk => (setCells_heap_ne b vs o W k (by omega)).trans (h.block k hk)⟩
theorem kep_setCells {b : Nat} {w W : World} {S : Nat → Prop} (h : Kept w W S) (hb : S b) (o : Nat) (vs : List Value) : Kept w (W.setCells b o vs) S :=
  ⟨by rw [setCells_size];exact h.1,fun i hi hn => (setCells_heap_ne b vs o W i (fun e => hn (e ▸ hb))).trans (h.2 i hi hn)⟩
theorem cells_cell {w : World} {g : Nat} {cur : Array Value} {e : TypeId} (h : w.heap[g]? = some (.cells cur e (0,0))) (k : Nat) : w.cell? ⟨g,k,none⟩ = cur.toList[k]? := by
  simp [World.cell?,h]
theorem cells_free {w : World} {g : Nat} {cur : Array Value} {e : TypeId} (h : w.heap[g]? = some (.cells cur e (0,0))) (k : Nat) : w.frozen? ⟨g,k,none⟩ = false := by
  simp [World.frozen?,h]
theorem cells_some {w : World} {g : Nat} {cur : Array Value} {e : TypeId} (h : w.heap[g]? = some (.cells cur e (0,0))) {k : Nat} (hk : k < cur.size) : (w.cell? ⟨g,k,none⟩).isSome = true := by
  rw [cells_cell h,List.getElem?_eq_getElem (by simpa using hk)]
  rfl
/-- What 'clear' writes. -/
theorem run_clear_cells {P : Program} (w : World) (t e ty : TypeId) (z : Value) (ht : P.underlying t = some (.slice e)) (hv : ∀ w,(zeroValue e).run P w = .ok z w) (b o n c : Nat) (hn : 0 < n)
    (h1 : ∀ v ∈ (Builtin.zeroCells z.cells n).toList,v.oneCell' = true)
    (hc : ∀ j,j < (Builtin.zeroCells z.cells n).toList.length → (w.cell? ⟨b,o + j,none⟩).isSome = true) (hf : ∀ j,j < (Builtin.zeroCells z.cells n).toList.length → w.frozen? ⟨b,o + j,none⟩ = false) :
    (Builtin.clear_ #[t] ty #[.slice (some ⟨b,o,none⟩) n c]).run P w = .ok (.tuple #[]) (w.setCells b o (Builtin.zeroCells z.cells n).toList) := by
  have hst := run_storeCells_cells (P := P) b o (Builtin.zeroCells z.cells n).toList 0 w (by simpa using hc) (by simpa using hf) h1
  simp only [Nat.add_zero] at hst
  obtain ⟨m,rfl⟩ : ∃ m,n = m + 1 := ⟨n - 1,by omega⟩
  simp [Builtin.clear_,run_underlying ht,hv,hst]
theorem zeroCells_len (cs : Array Value) (n : Nat) : (Builtin.zeroCells cs n).toList.length = n * cs.size := by
  simp [Builtin.zeroCells]
theorem zeroCells_one (cs : Array Value) (n : Nat) (h : ∀ v ∈ cs.toList,v.oneCell' = true) : ∀ v ∈ (Builtin.zeroCells cs n).toList,v.oneCell' = true := by
  intro v hv
  obtain ⟨k,hk,rfl⟩ := List.getElem_of_mem hv
  simp [Builtin.zeroCells] at hk ⊢
  have hp : 0 < cs.size := by
    rcases Nat.eq_zero_or_pos cs.size with h0 | h0
    · rw [h0] at hk;omega
    · exact h0
  apply h
  have hm := Nat.mod_lt k hp
  rw [getElem!_pos cs (k % cs.size) hm]
  simp

theorem run_copy_K {P : Program} (w : World) (dT sT ty elem : TypeId) (i : TypeInfo) (b o dLen dCap : Nat) (a : Addr) (sLen sCap : Nat) (cs : List Value)
    (hu : P.underlying dT = some (.slice elem)) (hq : P.info? elem = some i) (hn : cs.length = Nat.min sLen dLen * i.size)
    (hsrc : ∀ j v,cs[j]? = some v → w.cell? (a.add j) = some v) (hc : ∀ j,j < cs.length → (w.cell? ⟨b,o + j,none⟩).isSome = true) (hf : ∀ j,j < cs.length → w.frozen? ⟨b,o + j,none⟩ = false) (h1 : ∀ v ∈ cs,v.oneCell' = true) :
    (Builtin.copy_ #[dT,sT] ty #[.slice (some ⟨b,o,none⟩) dLen dCap,.slice (some a) sLen sCap]).run P w = .ok (goInt (Nat.min sLen dLen)) (w.setCells b o cs) := by
  have hl := run_loadCells_list (P := P) w a cs hsrc
  have hst := run_storeCells_cells (P := P) b o cs 0 w (by simpa using hc) (by simpa using hf) h1
  simp [Builtin.copy_,run_underlying hu,Builtin.lenOf,Builtin.firstCells,Go.sizeOf,typeInfo,hq,← hn,hl,hst]
theorem wpx_copy {P : Program} (w : World) {ops : Array Oper} {rest : List Oper} {o : Oper} {a : Act} {Q : Exit → Act → World → Prop} (hgd : o.guard = none) (d s : Operand) (t t' : TypeId)
    (ho : o.op = .call { callee := .builtin .copy,args := #[d,s],argTypes := #[t,t'] }) (v u : Value) (hd : a.eval d = v) (hs : a.eval s = u) {v' : Value} {w' : World}
    (hr : (Builtin.copy_ #[t,t'] o.type #[v,u]).run P w = .ok v' w') (h : wpList P ops Q rest (a.put o.dst v') w') : wpList P ops Q (o :: rest) a w :=
  wpList_plain hgd fun _ hK => by
    unfold Oper.wp execOp
    simp only [ho,resolve,invoke,builtin,Sem.run_bind,Sem.run_pure,Result.andThen_ok,List.map_toArray,List.map_cons,List.map_nil,hd,hs,hr]
    exact hK _ _ h
theorem stepx_copy {P : Program} {ops : Array Oper} {o : Oper} {a : Act} {w : World} {K : Act → World → Prop} {Q : Exit → Act → World → Prop} {E : Prop}
    (hg : o.guard = none) (d x : Operand) (dT sT : TypeId) (hop : o.op = Op.call { callee := Callee.builtin Builtin.copy,args := #[d,x],argTypes := #[dT,sT] })
    (v u : Value) (hd : a.eval d = v) (hx : a.eval x = u) {v' : Value} {w' : World} (hr : (Builtin.copy_ #[dT,sT] o.type #[v,u]).run P w = .ok v' w') (hK : K (a.put o.dst v') w') :
    if Region.wanted o (yielded ops a.tmps) = true then Oper.wp P o a w K Q else E := by
  have hw : Region.wanted o (yielded ops a.tmps) = true := by simp [Region.wanted,hg]
  rw [if_pos hw]
  unfold Oper.wp
  simp [execOp,hop,resolve,invoke,builtin,hd,hx,hr,Result.andThen]
  exact hK
/-- Two rows in two blocks of which the second is plain memory with a cell at least: they don't overlap. -/
theorem run_overlaps_x {P : Program} (w : World) (tS tR e : TypeId) (ht : P.underlying tS = some (.slice e)) (size : Nat) (hz : ∀ w,(Go.sizeOf e).run P w = .ok size w)
    (a b : Addr) (la ca lb cb : Nat) (hne : a.block ≠ b.block) (tA tB : TypeId) (kA kB : Nat)
    (hsa : w.shape? a.block = some (tA,kA)) (hsb : w.shape? b.block = some (tB,kB)) (hkB : kB ≠ 0) (hkA : kA ≠ 0)
    (hfb : ∀ k,w.frozen? { block := b.block,off := k } = false) (hbs : b.spot = none) :
    (Extern.SlicesOverlaps.overlaps #[tS,tS] #[tR] #[.slice (some a) la ca,.slice (some b) lb cb]).run P w = .ok (.bool false) w := by
  have hnb : (a.block != b.block) = true := by simpa using hne
  have hnb' : (a.block == b.block) = false := by simpa using hne
  have hfb0 : w.frozen? b = false := by
    obtain ⟨bb,bo,bs⟩ := b
    subst hbs
    exact hfb bo
  change Sem.run P (α := Value) (do
    let some t := (#[tS, tS] : Array TypeId)[0]? | stuck "slices.overlaps: no parameter types"
    let .slice elem ← underlying t | stuck "slices.overlaps: slice type expected"
    let size ← sizeOf elem
    match (some a : Option Addr),(some b : Option Addr) with
    | some a,some b =>
      if la = 0 ∨ lb = 0 ∨ size = 0 then pure (Value.bool false)
      else if a.block != b.block && (← frozen a) && (← frozen b) then unsupported .addressObserved
      else do
        if a.block != b.block then do
          noView a;noView b
          if ← mayBeOne a b then return Value.bool ((← choose (.extern "sameAddr.stringBytes" 2)) == 1)
        pure (Value.bool (a.block == b.block && a.off < b.off + lb * size && b.off < a.off + la * size))
    | _,_ => pure (Value.bool false)) w = _
  by_cases h0 : la = 0 ∨ lb = 0 ∨ size = 0
  · simp [run_underlying ht,hz,h0]
  · cases kB with
    | zero => exact absurd rfl hkB
    | succ kB =>
      cases kA with
      | zero => exact absurd rfl hkA
      | succ kA =>
      cases hfa : w.frozen? a <;> cases hfe : w.frozen? { block := a.block,off := kA + 1 } <;>
      simp [run_underlying ht,hz,h0,hnb,hnb',frozen,noView,viewAt,mayBeOne,stringish,shape,Sem.run,hsa,hsb,hfa,hfe,hfb,hfb0]

theorem grownBy_setCells (w : World) (g o : Nat) (vs : List Value) : w.grownBy (w.setCells g o vs) (some g) := by
  obtain ⟨h1,h2,h3⟩ := setCells_rest g vs o w
  exact ⟨h1,h2,h3,Nat.le_of_eq (setCells_size g vs o w).symm,fun k hk hn => setCells_heap_ne g vs o w k (fun e => hn (by rw [e]))⟩
theorem grownBy_drew_alloc (w : World) (o : Obj) (row : Option Nat) : w.grownBy (w.drew.alloc o) row := by
  have h := World.grownBy_alloc w.drew o row
  exact ⟨h.os,h.tape,h.output,h.size,h.block⟩
theorem run_append_own_x {P : Program} (w : World) (t tx ty e : TypeId) (i : TypeInfo) (z : Value) (size bytes : Nat) (ht : P.underlying t = some (.slice e)) (htx : P.underlying tx = some (.slice e)) (hi : P.info? e = some i) (hz : i.zero = some z) (hsize : i.size = size) (hby : i.bytes = bytes) (hzs : z.cells.size = size) (hsz : 0 < size) (hb0 : 0 < bytes)
    (base : Nat) (v : Value) (n : Nat) (xs : List Value) (hown : w.ownsRow base e size v n xs) (ad : Addr) (m c : Nat) (news : List Value) (hl : news.length = m * size) (hnews : ∀ j u,news[j]? = some u → w.cell? (ad.add j) = some u) (h1 : ∀ u ∈ news,u.oneCell' = true)
    (hbytes : (n + m) * bytes ≤ 140737488355328) (hbase : base ≤ w.heap.size) :
    ∃ v' w',(Builtin.append_ #[t,tx] ty #[v,.slice (some ad) m c]).run P w = .ok v' w' ∧ w'.ownsRow base e size v' (n + m) (xs ++ news) ∧ w.grownBy w' v.ownBlock ∧ (v'.ownBlock = v.ownBlock ∨ ∃ b,v'.ownBlock = some b ∧ w.heap.size ≤ b) := by
  have hsrc : Src P i.size tx (.slice (some ad) m c) m news w := by
    rw [hsize]
    exact Src.ofSlice w htx ad m c news hl hnews h1
  have hnm : n + m ≤ 140737488355328 := Nat.le_trans (Nat.le_mul_of_pos_right _ hb0) hbytes
  have hml : n + m ≤ maxLen := by simp only [maxLen];omega
  obtain ⟨hxl,hv⟩ := hown
  have newblk : ∀ (olds : List Value) (G : Nat),olds = xs → n + m ≤ G → G ≤ maxLen → (w.drew.alloc (.cells ((olds ++ news).toArray ++ Builtin.zeroCells z.cells (G - (n + m))) e)).ownsRow base e size (.slice (some ⟨w.heap.size,0,none⟩) (n + m) G) (n + m) (xs ++ news) := by
    intro olds G ho hG hG2
    subst ho
    refine ⟨by rw [List.length_append,hxl,hl,Nat.add_mul],.inr ⟨w.heap.size,G,_,rfl,hbase,heap_alloc_new w.drew _,hG,hG2,?_,?_⟩⟩
    · simp only [Array.size_append,List.size_toArray,List.length_append,hxl,hl]
      rw [← Array.length_toList (xs := Builtin.zeroCells _ _),zeroCells_len,hzs,← Nat.add_mul,← Nat.add_mul]
      congr 1
      omega
    · simp only [Array.toList_append]
      rw [List.take_left']
      simp [hxl,hl,Nat.add_mul]
  rcases hv with ⟨rfl,rfl⟩ | ⟨g,cap,cur,rfl,hb,hg,hn,hm,hcs,htk⟩
  · have hx0 : xs = [] := List.eq_nil_of_length_eq_zero (by rw [hxl];simp)
    subst hx0
    rcases Nat.eq_zero_or_pos m with h0 | h0
    · subst h0
      have hne : news = [] := List.eq_nil_of_length_eq_zero (by rw [hl];simp)
      subst hne
      refine ⟨.slice none 0 0,w,?_,⟨by simp,.inl ⟨rfl,rfl⟩⟩,World.grownBy.refl _ _,.inl rfl⟩
      have hf : (Builtin.firstCells size 0 (.slice (some ad) 0 c)).run P w = .ok #[] w := by have := hsrc.cells;rw [hsize] at this;exact this
      simp [Builtin.append_,run_underlying ht,run_underlying htx,Go.sizeOf,typeInfo,hi,hsize,Builtin.lenOf,hf]
    · refine ⟨_,_,run_append_grow_src w t tx ty e i z ht hi hz none 0 0 [] (run_firstCells_none w.drew i.size 0 0 0) _ m news hsrc (by omega) (by omega) (by rw [hby];exact growslice_fits (by omega) hbytes),?_,?_,.inr ⟨_,rfl,Nat.le_refl _⟩⟩
      · exact newblk [] _ rfl (grownCap_ge w _ _ _) (grownCap_le_maxLen w _ _ _ hml)
      · exact grownBy_drew_alloc w _ _
  · by_cases hroom : n + m ≤ cap
    · obtain ⟨cur',k1,k2,k3⟩ := setCells_heap_at g news (0 + n * i.size) w cur e (0,0) hg (by rw [hl,hsize,hcs,Nat.zero_add,← Nat.add_mul];exact Nat.mul_le_mul_right _ hroom)
      have hle : news.length + n * size ≤ cap * size := by rw [hl,Nat.add_comm,← Nat.add_mul];exact Nat.mul_le_mul_right _ hroom
      refine ⟨_,_,run_append_room_src w t tx ty e i ht hi g 0 n cap _ m news hsrc hroom (fun j hj => cells_some hg (by rw [hcs,hsize];omega)) (fun j _ => cells_free hg _),?_,grownBy_setCells w g _ _,.inl rfl⟩
      refine ⟨by rw [List.length_append,hxl,hl,Nat.add_mul],.inr ⟨g,cap,cur',rfl,hb,k1,hroom,hm,by rw [k2,hcs],?_⟩⟩
      rw [k3,hsize,Nat.zero_add,htk,Nat.add_mul,← hl]
      rw [show n * size = xs.length from hxl.symm,← List.length_append]
      exact List.take_left' rfl
    · refine ⟨_,_,run_append_grow_src w t tx ty e i z ht hi hz (some ⟨g,0,none⟩) n cap xs ?_ _ m news hsrc (by omega) (by simp only [maxLen] at hml;omega) (by rw [hby];exact growslice_fits (by omega) hbytes),?_,?_,.inr ⟨_,rfl,Nat.le_refl _⟩⟩
      · refine run_firstCells_some w.drew i.size n ⟨g,0,none⟩ n cap xs (by rw [hsize];exact hxl) (fun j u hj => ?_)
        rw [add_lit',Nat.zero_add]
        show w.cell? _ = _
        rw [cells_cell hg]
        rw [← htk,List.getElem?_take] at hj
        split at hj
        · exact hj
        · cases hj
      · exact newblk xs _ rfl (grownCap_ge w _ _ _) (grownCap_le_maxLen w _ _ _ hml)
      · exact grownBy_drew_alloc w _ _

/-- What reads so whatever becomes of the blocks of P lies in none of them. -/
theorem apart_of_kept {α : Type} {d : Kd α} {enc : α → List Value} (F : Flat d enc) {w : World} {P : Nat → Prop} {g vb vo : Nat} {xs : List α} (hP : P g) (hne : xs ≠ []) (h : ∀ W_,Kept w W_ P → d.C W_ (some ⟨vb,vo,none⟩) xs.length xs) : vb ≠ g := by
  rintro rfl
  have hk : Kept w { w with heap := w.heap.modify vb (fun _ => .cells #[] 0 (0,0)) } P := by
    refine ⟨by simp,fun i hi hn => ?_⟩
    simp only [Array.getElem?_modify]
    rw [if_neg (show ¬ (vb = i) from fun e => hn (by rw [← e];exact hP))]
  have hl : 0 < (xs.flatMap enc).length := by
    rw [flatMap_length F]
    exact Nat.mul_pos (List.length_pos_iff.2 hne) F.pos
  rcases C_at F (h _ hk) with h0 | ⟨b,o,hb,hc⟩
  · rw [h0] at hl;simp at hl
  · obtain ⟨rfl,rfl⟩ : vb = b ∧ vo = o := by simpa using hb
    have h1 := hc 0 _ (List.getElem?_eq_getElem hl)
    simp only [World.cell?,Array.getElem?_modify,if_true] at h1
    cases hq : w.heap[vb]? with
    | none => rw [hq] at h1;simp at h1
    | some ob => rw [hq] at h1;simp at h1
end Go.Proofs.YtkoiffkonjpoiaaX
namespace Go.Proofs.Ytkoiffkonjpoiaa.Q
open Go.RowKit Go.Proofs.YtkoiffkonjpoiaaW.PrintWords Go.Proofs.YtkoiffkonjpoiaaW.PrintLast Go.Proofs.YtkoiffkonjpoiaaW.PrintMore Go.Proofs.YtkoiffkonjpoiaaX
attribute [local go_sem] max2_int min2_int max_two min_two max_three min_three max_four min_four   -- for this text's walks alone
set_option linter.unusedVariables false
set_option linter.unusedSimpArgs false

def errW : Option Int → Value
  | none => .nilIface
  | some c => .iface 0 (.int .i64 c)
theorem errW_none : errW none = .nilIface := rfl
theorem errW_some (c : Int) : errW (some c) = .iface 0 (.int .i64 c) := rfl

theorem info3 : (Try.prog.info? 3).map (fun i => (i.zero,i.size,i.bytes)) = some (some (.int .i64 0),1,8) := by kernel_rfl
theorem info40 : (Try.prog.info? 40).map (fun i => (i.zero,i.size,i.bytes)) = some (some (.agg #[(.int .i64 0),(.int .i64 0)]),2,16) := by kernel_rfl
theorem info128 : (Try.prog.info? 128).map (fun i => (i.zero,i.size,i.bytes)) = some (some (.agg #[(.int .i64 0),(.int .u8 0),(.int .i64 0),(.int .i64 0),(.int .i64 0),(.int .i64 0),(.int .i64 0),(.int .i64 0),(.bool false),(.int .i64 0),(.int .i64 0),(.slice none 0 0),(.bool false)]),13,120) := by kernel_rfl
structure S40 where
  f0 : Int
  f1 : Int
def z40 : S40 := ⟨(0 : Int),(0 : Int)⟩
def k40 : Kd S40 := Kd.iso (Kd.pair (Kd.int .i64) (Kd.int .i64)) (fun x : S40 => (x.f0,x.f1))
theorem k40_heap : Kd.Heap k40 := Kd.heap_iso _ (Kd.heap_pair (Kd.heap_int .i64) (Kd.heap_int .i64))
theorem k40_open {w : World} {x : S40} {cs : List Value} (h : k40.K w x cs) : cs = [.int .i64 x.f0,.int .i64 x.f1] := by
  obtain ⟨_,_,rfl,rfl,rfl⟩ := h
  exact rfl
theorem k40_openM {w : World} {base : Nat} {ok : Nat → Prop} {x : S40} {cs : List Value} (h : k40.M w base ok x cs) : cs = [.int .i64 x.f0,.int .i64 x.f1] := by
  obtain ⟨_,_,rfl,rfl,rfl⟩ := h
  exact rfl
theorem k40_mk (w : World) (x : S40)  : k40.K w x [.int .i64 x.f0,.int .i64 x.f1] := ⟨[.int .i64 x.f0],[.int .i64 x.f1],rfl,rfl,rfl⟩
theorem k40_mkM (w : World) (base : Nat) (ok : Nat → Prop) (x : S40)  : k40.M w base ok x [.int .i64 x.f0,.int .i64 x.f1] := ⟨[.int .i64 x.f0],[.int .i64 x.f1],rfl,rfl,rfl⟩
def rd_T40 (xs : List S40) (i : Int) : S40 := xs.getD i.toNat z40
theorem at_T40 {w : World} {A : Option Addr} {n : Nat} {xs : List S40} (h : Kd.C k40 w A n xs) (i : Int) (h0 : 0 ≤ i) (h1 : i < n) : ∃ ad ,A = some ad ∧ w.cell? (ad.add (i.toNat * 2)) = some (.int .i64 (rd_T40 xs i).f0) ∧ w.cell? ⟨(ad.add (i.toNat * 2)).block,(ad.add (i.toNat * 2)).off + 1,none⟩ = some (.int .i64 (rd_T40 xs i).f1) := by
  obtain ⟨ad,c,e,_,hK,hc0⟩ := Kd.C_get h z40 i h0 h1
  have hc : ∀ j u,c[j]? = some u → w.cell? (ad.add (i.toNat * 2 + j)) = some u := hc0
  obtain rfl := k40_open hK
  exact ⟨ad,e,hc 0 _ rfl,by rw [← add_field _ _ 1 (by omega)];exact hc 1 _ rfl⟩

structure S26 where
  f0 : (List Int)
  f1 : (List Int)
structure S73 where
  f0 : Bool
  f1 : Int
  f2 : Int
structure S78 where
  f0 : Int
  f1 : Int
  f2 : Int
  f3 : Int
def z78 : S78 := ⟨(0 : Int),(0 : Int),(0 : Int),(0 : Int)⟩
def k78 : Kd S78 := Kd.iso (Kd.pair (Kd.int .u8) (Kd.pair (Kd.int .i64) (Kd.pair (Kd.int .i64) (Kd.int .i64)))) (fun x : S78 => (x.f0,x.f1,x.f2,x.f3))
theorem k78_open {w : World} {x : S78} {cs : List Value} (h : k78.K w x cs) : cs = [.int .u8 x.f0,.int .i64 x.f1,.int .i64 x.f2,.int .i64 x.f3] := by
  obtain ⟨_,_,rfl,rfl,⟨_,_,rfl,rfl,⟨_,_,rfl,rfl,rfl⟩⟩⟩ := h
  exact rfl
theorem k78_openM {w : World} {base : Nat} {ok : Nat → Prop} {x : S78} {cs : List Value} (h : k78.M w base ok x cs) : cs = [.int .u8 x.f0,.int .i64 x.f1,.int .i64 x.f2,.int .i64 x.f3] := by
  obtain ⟨_,_,rfl,rfl,⟨_,_,rfl,rfl,⟨_,_,rfl,rfl,rfl⟩⟩⟩ := h
  exact rfl
theorem k78_mkM (w : World) (base : Nat) (ok : Nat → Prop) (x : S78)  : k78.M w base ok x [.int .u8 x.f0,.int .i64 x.f1,.int .i64 x.f2,.int .i64 x.f3] := ⟨[.int .u8 x.f0],[.int .i64 x.f1,.int .i64 x.f2,.int .i64 x.f3],rfl,rfl,⟨[.int .i64 x.f1],[.int .i64 x.f2,.int .i64 x.f3],rfl,rfl,⟨[.int .i64 x.f2],[.int .i64 x.f3],rfl,rfl,rfl⟩⟩⟩
structure S84 where
  f0 : Int
  f1 : Bool
  f2 : Int
  f3 : Int
  f4 : (List S40)
  f5 : Bool
def z84 : S84 := ⟨(0 : Int),false,(0 : Int),(0 : Int),([] : List S40),false⟩
def k84 : Kd S84 := Kd.iso (Kd.pair (Kd.int .i64) (Kd.pair Kd.bool (Kd.pair (Kd.int .i64) (Kd.pair (Kd.int .i64) (Kd.pair (Kd.slice 40 k40) Kd.bool))))) (fun x : S84 => (x.f0,x.f1,x.f2,x.f3,x.f4,x.f5))
theorem k84_open {w : World} {x : S84} {cs : List Value} (h : k84.K w x cs) : ∃ A4 c4,cs = [.int .i64 x.f0,.bool x.f1,.int .i64 x.f2,.int .i64 x.f3,.slice A4 x.f4.length c4,.bool x.f5] ∧ x.f4.length ≤ c4 ∧ k40.C w A4 x.f4.length x.f4 := by
  obtain ⟨_,_,rfl,rfl,⟨_,_,rfl,rfl,⟨_,_,rfl,rfl,⟨_,_,rfl,rfl,⟨_,_,rfl,⟨A4,c4,rfl,l4,g4⟩,rfl⟩⟩⟩⟩⟩ := h
  exact ⟨A4,c4,rfl,l4,g4⟩
theorem k84_openM {w : World} {base : Nat} {ok : Nat → Prop} {x : S84} {cs : List Value} (h : k84.M w base ok x cs) : ∃ v4,cs = [.int .i64 x.f0,.bool x.f1,.int .i64 x.f2,.int .i64 x.f3,v4,.bool x.f5] ∧ k40.R 40 w base ok v4 x.f4 := by
  obtain ⟨_,_,rfl,rfl,⟨_,_,rfl,rfl,⟨_,_,rfl,rfl,⟨_,_,rfl,rfl,⟨_,_,rfl,⟨v4,rfl,g4⟩,rfl⟩⟩⟩⟩⟩ := h
  exact ⟨v4,rfl,g4⟩
theorem k84_mkM (w : World) (base : Nat) (ok : Nat → Prop) (x : S84) {v4 : Value} (g4 : k40.R 40 w base ok v4 x.f4) : k84.M w base ok x [.int .i64 x.f0,.bool x.f1,.int .i64 x.f2,.int .i64 x.f3,v4,.bool x.f5] := ⟨[.int .i64 x.f0],[.bool x.f1,.int .i64 x.f2,.int .i64 x.f3,v4,.bool x.f5],rfl,rfl,⟨[.bool x.f1],[.int .i64 x.f2,.int .i64 x.f3,v4,.bool x.f5],rfl,rfl,⟨[.int .i64 x.f2],[.int .i64 x.f3,v4,.bool x.f5],rfl,rfl,⟨[.int .i64 x.f3],[v4,.bool x.f5],rfl,rfl,⟨[v4],[.bool x.f5],rfl,⟨v4,rfl,g4⟩,rfl⟩⟩⟩⟩⟩
structure S128 where
  f0 : Int
  f1 : S78
  f2 : Int
  f3 : Int
  f4 : S84
def z128 : S128 := ⟨(0 : Int),z78,(0 : Int),(0 : Int),z84⟩
def k128 : Kd S128 := Kd.iso (Kd.pair (Kd.int .i64) (Kd.pair k78 (Kd.pair (Kd.int .i64) (Kd.pair (Kd.int .i64) k84)))) (fun x : S128 => (x.f0,x.f1,x.f2,x.f3,x.f4))
theorem k128_open {w : World} {x : S128} {cs : List Value} (h : k128.K w x cs) : ∃ A11 c11,cs = [.int .i64 x.f0,.int .u8 x.f1.f0,.int .i64 x.f1.f1,.int .i64 x.f1.f2,.int .i64 x.f1.f3,.int .i64 x.f2,.int .i64 x.f3,.int .i64 x.f4.f0,.bool x.f4.f1,.int .i64 x.f4.f2,.int .i64 x.f4.f3,.slice A11 x.f4.f4.length c11,.bool x.f4.f5] ∧ x.f4.f4.length ≤ c11 ∧ k40.C w A11 x.f4.f4.length x.f4.f4 := by
  obtain ⟨_,_,rfl,rfl,⟨_,_,rfl,s1,⟨_,_,rfl,rfl,⟨_,_,rfl,rfl,s7⟩⟩⟩⟩ := h
  obtain rfl := k78_open s1
  obtain ⟨A11,c11,rfl,l11,g11⟩ := k84_open s7
  exact ⟨A11,c11,rfl,l11,g11⟩
theorem k128_openM {w : World} {base : Nat} {ok : Nat → Prop} {x : S128} {cs : List Value} (h : k128.M w base ok x cs) : ∃ v11,cs = [.int .i64 x.f0,.int .u8 x.f1.f0,.int .i64 x.f1.f1,.int .i64 x.f1.f2,.int .i64 x.f1.f3,.int .i64 x.f2,.int .i64 x.f3,.int .i64 x.f4.f0,.bool x.f4.f1,.int .i64 x.f4.f2,.int .i64 x.f4.f3,v11,.bool x.f4.f5] ∧ k40.R 40 w base ok v11 x.f4.f4 := by
  obtain ⟨_,_,rfl,rfl,⟨_,_,rfl,s1,⟨_,_,rfl,rfl,⟨_,_,rfl,rfl,s7⟩⟩⟩⟩ := h
  obtain rfl := k78_openM s1
  obtain ⟨v11,rfl,g11⟩ := k84_openM s7
  exact ⟨v11,rfl,g11⟩
theorem k128_mkM (w : World) (base : Nat) (ok : Nat → Prop) (x : S128) {v11 : Value} (g11 : k40.R 40 w base ok v11 x.f4.f4) : k128.M w base ok x [.int .i64 x.f0,.int .u8 x.f1.f0,.int .i64 x.f1.f1,.int .i64 x.f1.f2,.int .i64 x.f1.f3,.int .i64 x.f2,.int .i64 x.f3,.int .i64 x.f4.f0,.bool x.f4.f1,.int .i64 x.f4.f2,.int .i64 x.f4.f3,v11,.bool x.f4.f5] := ⟨[.int .i64 x.f0],[.int .u8 x.f1.f0,.int .i64 x.f1.f1,.int .i64 x.f1.f2,.int .i64 x.f1.f3,.int .i64 x.f2,.int .i64 x.f3,.int .i64 x.f4.f0,.bool x.f4.f1,.int .i64 x.f4.f2,.int .i64 x.f4.f3,v11,.bool x.f4.f5],rfl,rfl,⟨[.int .u8 x.f1.f0,.int .i64 x.f1.f1,.int .i64 x.f1.f2,.int .i64 x.f1.f3],[.int .i64 x.f2,.int .i64 x.f3,.int .i64 x.f4.f0,.bool x.f4.f1,.int .i64 x.f4.f2,.int .i64 x.f4.f3,v11,.bool x.f4.f5],rfl,(k78_mkM w base ok x.f1 ),⟨[.int .i64 x.f2],[.int .i64 x.f3,.int .i64 x.f4.f0,.bool x.f4.f1,.int .i64 x.f4.f2,.int .i64 x.f4.f3,v11,.bool x.f4.f5],rfl,rfl,⟨[.int .i64 x.f3],[.int .i64 x.f4.f0,.bool x.f4.f1,.int .i64 x.f4.f2,.int .i64 x.f4.f3,v11,.bool x.f4.f5],rfl,rfl,(k84_mkM w base ok x.f4 g11)⟩⟩⟩⟩
def rd_T128 (xs : List S128) (i : Int) : S128 := xs.getD i.toNat z128
theorem at_T128 {w : World} {A : Option Addr} {n : Nat} {xs : List S128} (h : Kd.C k128 w A n xs) (i : Int) (h0 : 0 ≤ i) (h1 : i < n) : ∃ ad A11 c11,A = some ad ∧ w.cell? (ad.add (i.toNat * 13)) = some (.int .i64 (rd_T128 xs i).f0) ∧ w.cell? ⟨(ad.add (i.toNat * 13)).block,(ad.add (i.toNat * 13)).off + 1,none⟩ = some (.int .u8 (rd_T128 xs i).f1.f0) ∧ w.cell? ⟨(ad.add (i.toNat * 13)).block,(ad.add (i.toNat * 13)).off + 2,none⟩ = some (.int .i64 (rd_T128 xs i).f1.f1) ∧ w.cell? ⟨(ad.add (i.toNat * 13)).block,(ad.add (i.toNat * 13)).off + 3,none⟩ = some (.int .i64 (rd_T128 xs i).f1.f2) ∧ w.cell? ⟨(ad.add (i.toNat * 13)).block,(ad.add (i.toNat * 13)).off + 4,none⟩ = some (.int .i64 (rd_T128 xs i).f1.f3) ∧ w.cell? ⟨(ad.add (i.toNat * 13)).block,(ad.add (i.toNat * 13)).off + 5,none⟩ = some (.int .i64 (rd_T128 xs i).f2) ∧ w.cell? ⟨(ad.add (i.toNat * 13)).block,(ad.add (i.toNat * 13)).off + 6,none⟩ = some (.int .i64 (rd_T128 xs i).f3) ∧ w.cell? ⟨(ad.add (i.toNat * 13)).block,(ad.add (i.toNat * 13)).off + 7,none⟩ = some (.int .i64 (rd_T128 xs i).f4.f0) ∧ w.cell? ⟨(ad.add (i.toNat * 13)).block,(ad.add (i.toNat * 13)).off + 8,none⟩ = some (.bool (rd_T128 xs i).f4.f1) ∧ w.cell? ⟨(ad.add (i.toNat * 13)).block,(ad.add (i.toNat * 13)).off + 9,none⟩ = some (.int .i64 (rd_T128 xs i).f4.f2) ∧ w.cell? ⟨(ad.add (i.toNat * 13)).block,(ad.add (i.toNat * 13)).off + 10,none⟩ = some (.int .i64 (rd_T128 xs i).f4.f3) ∧ w.cell? ⟨(ad.add (i.toNat * 13)).block,(ad.add (i.toNat * 13)).off + 11,none⟩ = some (.slice A11 (rd_T128 xs i).f4.f4.length c11) ∧ w.cell? ⟨(ad.add (i.toNat * 13)).block,(ad.add (i.toNat * 13)).off + 12,none⟩ = some (.bool (rd_T128 xs i).f4.f5) ∧ (rd_T128 xs i).f4.f4.length ≤ c11 ∧ k40.C w A11 (rd_T128 xs i).f4.f4.length (rd_T128 xs i).f4.f4 := by
  obtain ⟨ad,c,e,_,hK,hc0⟩ := Kd.C_get h z128 i h0 h1
  have hc : ∀ j u,c[j]? = some u → w.cell? (ad.add (i.toNat * 13 + j)) = some u := hc0
  obtain ⟨A11,c11,rfl,l11,g11⟩ := k128_open hK
  exact ⟨ad,A11,c11,e,hc 0 _ rfl,by rw [← add_field _ _ 1 (by omega)];exact hc 1 _ rfl,by rw [← add_field _ _ 2 (by omega)];exact hc 2 _ rfl,by rw [← add_field _ _ 3 (by omega)];exact hc 3 _ rfl,by rw [← add_field _ _ 4 (by omega)];exact hc 4 _ rfl,by rw [← add_field _ _ 5 (by omega)];exact hc 5 _ rfl,by rw [← add_field _ _ 6 (by omega)];exact hc 6 _ rfl,by rw [← add_field _ _ 7 (by omega)];exact hc 7 _ rfl,by rw [← add_field _ _ 8 (by omega)];exact hc 8 _ rfl,by rw [← add_field _ _ 9 (by omega)];exact hc 9 _ rfl,by rw [← add_field _ _ 10 (by omega)];exact hc 10 _ rfl,by rw [← add_field _ _ 11 (by omega)];exact hc 11 _ rfl,by rw [← add_field _ _ 12 (by omega)];exact hc 12 _ rfl,l11,g11⟩

structure S126 where
  f0 : S78
  f1 : Int
  f2 : Int
  f3 : Int
def z126 : S126 := ⟨z78,(0 : Int),(0 : Int),(0 : Int)⟩
def k126 : Kd S126 := Kd.iso (Kd.pair k78 (Kd.pair (Kd.int .u8) (Kd.pair (Kd.int .u8) (Kd.int .u8)))) (fun x : S126 => (x.f0,x.f1,x.f2,x.f3))
theorem k126_open {w : World} {x : S126} {cs : List Value} (h : k126.K w x cs) : cs = [.int .u8 x.f0.f0,.int .i64 x.f0.f1,.int .i64 x.f0.f2,.int .i64 x.f0.f3,.int .u8 x.f1,.int .u8 x.f2,.int .u8 x.f3] := by
  obtain ⟨_,_,rfl,s0,⟨_,_,rfl,rfl,⟨_,_,rfl,rfl,rfl⟩⟩⟩ := h
  obtain rfl := k78_open s0
  exact rfl
def rd_T126 (xs : List S126) (i : Int) : S126 := xs.getD i.toNat z126
theorem at_T126 {w : World} {A : Option Addr} {n : Nat} {xs : List S126} (h : Kd.C k126 w A n xs) (i : Int) (h0 : 0 ≤ i) (h1 : i < n) : ∃ ad ,A = some ad ∧ w.cell? (ad.add (i.toNat * 7)) = some (.int .u8 (rd_T126 xs i).f0.f0) ∧ w.cell? ⟨(ad.add (i.toNat * 7)).block,(ad.add (i.toNat * 7)).off + 1,none⟩ = some (.int .i64 (rd_T126 xs i).f0.f1) ∧ w.cell? ⟨(ad.add (i.toNat * 7)).block,(ad.add (i.toNat * 7)).off + 2,none⟩ = some (.int .i64 (rd_T126 xs i).f0.f2) ∧ w.cell? ⟨(ad.add (i.toNat * 7)).block,(ad.add (i.toNat * 7)).off + 3,none⟩ = some (.int .i64 (rd_T126 xs i).f0.f3) ∧ w.cell? ⟨(ad.add (i.toNat * 7)).block,(ad.add (i.toNat * 7)).off + 4,none⟩ = some (.int .u8 (rd_T126 xs i).f1) ∧ w.cell? ⟨(ad.add (i.toNat * 7)).block,(ad.add (i.toNat * 7)).off + 5,none⟩ = some (.int .u8 (rd_T126 xs i).f2) ∧ w.cell? ⟨(ad.add (i.toNat * 7)).block,(ad.add (i.toNat * 7)).off + 6,none⟩ = some (.int .u8 (rd_T126 xs i).f3) := by
  obtain ⟨ad,c,e,_,hK,hc0⟩ := Kd.C_get h z126 i h0 h1
  have hc : ∀ j u,c[j]? = some u → w.cell? (ad.add (i.toNat * 7 + j)) = some u := hc0
  obtain rfl := k126_open hK
  exact ⟨ad,e,hc 0 _ rfl,by rw [← add_field _ _ 1 (by omega)];exact hc 1 _ rfl,by rw [← add_field _ _ 2 (by omega)];exact hc 2 _ rfl,by rw [← add_field _ _ 3 (by omega)];exact hc 3 _ rfl,by rw [← add_field _ _ 4 (by omega)];exact hc 4 _ rfl,by rw [← add_field _ _ 5 (by omega)];exact hc 5 _ rfl,by rw [← add_field _ _ 6 (by omega)];exact hc 6 _ rfl⟩

end Go.Proofs.Ytkoiffkonjpoiaa.Q
namespace Go.Proofs.Ytkoiffkonjpoiaa.Q
open Go.RowKit Go.Proofs.YtkoiffkonjpoiaaW.PrintWords Go.Proofs.YtkoiffkonjpoiaaW.PrintLast Go.Proofs.YtkoiffkonjpoiaaW.PrintMore Go.Proofs.YtkoiffkonjpoiaaX
attribute [local go_sem] max2_int min2_int max_two min_two max_three min_three max_four min_four   -- for this text's walks alone
set_option linter.unusedVariables false
set_option linter.unusedSimpArgs false

mutual
def boscagelaw02_Put.l0 : Nat → Int → Int → List (S40) → Bool → List (S40) → Int → Int → Option ((List (S40)))
  | 0,_,_,_,_,_,_,_ => none
  | k + 1,x1,x2,x7,x8,x11,x12,x13 => if x13 < x12 then (if 0 ≤ x13 then (if x13 < (x11.length : Int) then (if x8 = true then (boscagelaw02_Put.j1 k x1 x2 x7 x8 x11 x12 x13 false ((rd_T40 x11 x13).f0) ((rd_T40 x11 x13).f1)) else (boscagelaw02_Put.j1 k x1 x2 x7 x8 x11 x12 x13 (decide (((rd_T40 x11 x13).f0) ≥ x1)) ((rd_T40 x11 x13).f0) ((rd_T40 x11 x13).f1))) else (none)) else (none)) else (if x8 = true then (some x7) else (if x7.length < 8796093022208 then (some (x7 ++ [(⟨x1,x2⟩ : S40)])) else (none)))
def boscagelaw02_Put.j1 : Nat → Int → Int → List (S40) → Bool → List (S40) → Int → Int → Bool → Int → Int → Option ((List (S40)))
  | 0,_,_,_,_,_,_,_,_,_,_ => none
  | k + 1,x1,x2,x7,x8,x11,x12,x13,x24,x127000,x127001 => if x24 = true then (if x7.length < 8796093022208 then ((some (x7 ++ [(⟨x1,x2⟩ : S40)] : List (S40))).bind fun y127 => (if x127000 = x1 then (boscagelaw02_Put.l0 k x1 x2 y127 true x11 x12 (wrap64 (x13 + 1))) else (if y127.length < 8796093022208 then (boscagelaw02_Put.l0 k x1 x2 (y127 ++ [(⟨x127000,x127001⟩ : S40)]) true x11 x12 (wrap64 (x13 + 1))) else (none)))) else (none)) else (if x127000 = x1 then (boscagelaw02_Put.l0 k x1 x2 x7 x8 x11 x12 (wrap64 (x13 + 1))) else (if x7.length < 8796093022208 then (boscagelaw02_Put.l0 k x1 x2 (x7 ++ [(⟨x127000,x127001⟩ : S40)]) x8 x11 x12 (wrap64 (x13 + 1))) else (none)))
end
def boscagelaw02_Put.f (k : Nat) (l0 : List (S40)) (a1 : Int) (a2 : Int) : Option ((List (S40))) := boscagelaw02_Put.l0 k a1 a2 ([] : List (S40)) false l0 (l0.length : Int) 0
set_option maxHeartbeats 8000000 in
set_option maxRecDepth 100000 in
theorem boscagelaw02_Put.calls (k : Nat) (A0 : Option Addr) (c0 : Nat) (l0 : List (S40)) (a1 : Int) (a2 : Int) (r : List (S40)) (w : World) (hr0 : Kd.C k40 w A0 l0.length l0) (hc0 : l0.length ≤ c0) (h : boscagelaw02_Put.f k l0 a1 a2 = some r) :
    Calls Try.prog 69 #[.slice A0 l0.length c0,.int .i64 a1,.int .i64 a2] w fun e w' => ∃ v0_ : Value,e = .returned (v0_) ∧ Kd.R k40 40 w' w.heap.size (fun _ => True) v0_ r ∧ Below w.heap.size w w' := by
  have hu40 := Try.underlying40
  have HR0 := Aside0.mk hr0
  have HC0 := Aside0.mk hc0
  clear hr0 hc0
  have HB := Aside0.mk (Below.refl w.heap.size w)
  have H : (boscagelaw02_Put.l0 k a1 a2 ([] : List (S40)) false l0 (l0.length : Int) 0) = some r := h
  clear h
  have H' := Aside0.mk H
  clear H
  go_enter Try.func69,Try.ntmps69
  go_wp2
  go_loopg [7,8,13] k (fun kq v7 v8 v13 w' => ∃ (x7_1 : List (S40)) (x8_1 : Bool) (x13_1 : Int),v8 = .bool x8_1 ∧ v13 = .int .i64 x13_1 ∧ Aside0 (boscagelaw02_Put.l0 kq a1 a2 x7_1 x8_1 l0 (l0.length : Int) x13_1 = some r) ∧ Aside0 (kq ≤ k) ∧ Aside0 (Kd.R k40 40 w' w.heap.size (fun _ => True) v7 x7_1) ∧ Aside0 (Below w.heap.size w w'))
  case atStart => exact ⟨(([] : List (S40))),(false),(0),(by first | rfl | (simp;done) | (simp [*];done)),(by first | rfl | (simp;done) | (simp [*];done)),H',⟨Nat.le_refl _⟩,⟨by first | exact Kd.R_nil _ _ _ _ _ | exact Kd.N_nil _ _ _ _ _ | exact Kd.V_nil _ _ _ _ _ | exact Kd.Q_nil _ _ _ _ _ | exact Kd.S_nil _ _ _ _ _⟩,⟨by repeat (first | (with_reducible first | exact HB.out | apply below_alloc | apply pw_below_drewN | apply below_drew1) | exact HB.out)⟩⟩
  case round =>
    clear H'
    try clear p2
    obtain ⟨x7_1,x8_1,x13_1,rfl,rfl,HA,HK1,HO_7,HB⟩ := hrel
    cases gk with
    | zero => exact absurd HA.out (by simp [boscagelaw02_Put.l0])
    | succ k1 =>
      have H := HA.out
      clear HA
      simp only [boscagelaw02_Put.l0] at H
      by_cases c4 : x13_1 < (l0.length : Int)
      · rw [if_pos c4] at H
        have c4b0 : decide (x13_1 < (l0.length : Int)) = true := decide_eq_true c4
        clear c4
        by_cases c5 : 0 ≤ x13_1
        · rw [if_pos c5] at H
          have c5b0 : decide (0 ≤ x13_1) = true := decide_eq_true c5
          clear c5
          by_cases c6 : x13_1 < (l0.length : Int)
          · rw [if_pos c6] at H
            have c6b0 : decide (x13_1 < (l0.length : Int)) = true := decide_eq_true c6
            clear c6
            have HC7 := Aside0.mk H
            clear H
            have p125 : 0 ≤ (x13_1 : Int) := of_decide_eq_true (by first | (with_reducible assumption) | assumption)
            have q125 : x13_1 < (l0.length : Int) := of_decide_eq_true (by first | (with_reducible assumption) | assumption)
            obtain ⟨ad125,e125,hx125_0,hx125_1⟩ := at_T40 HR0.out x13_1 p125 q125
            cases e125
            replace hx125_0 := (HB.out.cell (World.block_lt_of_cell? w _ hx125_0)).trans hx125_0
            replace hx125_1 := (HB.out.cell (World.block_lt_of_cell? w _ hx125_1)).trans hx125_1
            replace p125 := eq_true p125
            replace q125 := eq_true q125
            go_upto_region 6 with (first | ((with_reducible refine gate_dst (N := 10) rfl ?_);refine box_event ?hg (N := 10) ?hd (cs := #[.int .i64 0,.int .i64 0]) (t := 40) ?hr ?_;(case hd => rfl);(case hg => rfl);(case hr => first | (go_simp;done) | (go_simp;rfl));intro gb126 hg w8 hbox hb;have n0_ := Aside0.mk (Kd.R_below (Kd.R_elderB (by (with_reducible repeat (first | apply Kd.R_alloc | apply Kd.R_drewN | apply Kd.R_drew));exact HO_7.out) gb126 (Nat.le_of_eq hg.symm)) hb);have n1_ := Aside0.mk (below_step (by repeat (first | (with_reducible first | exact HB.out | apply below_alloc | apply pw_below_drewN | apply below_drew1) | exact HB.out)) hb);have n2_ := Aside0.mk (hbox);have n3_ := Aside0.mk ((by rw [hg];exact (below_size (by repeat (first | (with_reducible first | exact HB.out | apply below_alloc | apply pw_below_drewN | apply below_drew1) | exact HB.out))) : w.heap.size ≤ gb126));have n4_ := Aside0.mk ((by rw [hg];exact (below_size (by repeat (first | (with_reducible first | exact HB.out | apply below_alloc | apply pw_below_drewN | apply below_drew1) | exact HB.out))) : w.heap.size ≤ gb126));clear HO_7;clear HB;have HO_7 := n0_;have HB := n1_;have BK126 := n2_;have GW126 := n3_;have GE126 := n4_;clear n0_ n1_ n2_ n3_ n4_;clear hb hbox hg;have hcz9_0 : w8.cell? ⟨gb126,0,none⟩ = some (.int .i64 0) := (blk_cell BK126.out 0).trans rfl;have hcz9_1 : w8.cell? ⟨gb126,1,none⟩ = some (.int .i64 0) := (blk_cell BK126.out 1).trans rfl;have hfz9_0 := blk_frozen BK126.out 0;have hfz9_1 := blk_frozen BK126.out 1))
            (try simp only [Act.put,List.setIfInBounds_toArray,List.set_cons_zero,List.set_cons_succ])
            go_cut [24] (fun v24 wc => ∃ (kq : Nat) (x24_6 : Bool),v24 = .bool x24_6 ∧ Aside0 (boscagelaw02_Put.j1 kq a1 a2 x7_1 x8_1 l0 (l0.length : Int) x13_1 x24_6 ((rd_T40 l0 x13_1).f0) ((rd_T40 l0 x13_1).f1) = some r) ∧ Aside0 (kq ≤ k1) ∧ Aside0 (Kd.R k40 40 wc w.heap.size (fun k_ => k_ ≠ gb126) u7 x7_1) ∧ Aside0 (wc.heap[gb126]? = some (.cells #[.int .i64 ((rd_T40 l0 x13_1).f0),.int .i64 ((rd_T40 l0 x13_1).f1)] 40 (0,0))) ∧ Aside0 (Below w.heap.size w wc))
            case first =>
              have H := HC7.out
              clear HC7
              by_cases c10 : x8_1 = true
              · subst c10
                have H1 : (boscagelaw02_Put.j1 k1 a1 a2 x7_1 true l0 (l0.length : Int) x13_1 false ((rd_T40 l0 x13_1).f0) ((rd_T40 l0 x13_1).f1)) = some r := by rw [if_pos rfl] at H;exact H
                clear H
                have H := H1
                clear H1
                have H' := Aside0.mk H
                clear H
                go_wp2
                go_meet
                case rel => exact ⟨_,(false),(by first | rfl | (simp;done) | (simp [*];done)),H',⟨by have := HK1.out;first | omega | exact Nat.le_refl _⟩,⟨by (with_reducible repeat (first | apply Kd.R_alloc | apply Kd.R_drewN | apply Kd.R_drew));exact Kd.R_mono (Kd.R_far (p := ⟨gb126,1,none⟩) (Kd.R_far (p := ⟨gb126,0,none⟩) (Kd.R_mono HO_7.out (fun k_ hk => (⟨hk,hk.2⟩ : _ ∧ k_ ≠ gb126))) (fun _ hk => hk.2) (.int .i64 ((rd_T40 l0 x13_1).f0))) (fun _ hk => hk.2) (.int .i64 ((rd_T40 l0 x13_1).f1))) (fun _ hk => hk.1.2)⟩,⟨by (with_reducible repeat (first | refine blk_drewN ?_ _ | refine blk_drew ?_ | refine blk_alloc ?_ _));refine blk_put (cs := #[.int .i64 ((rd_T40 l0 x13_1).f0),.int .i64 0]) ?_ 1 _ rfl;(with_reducible repeat (first | refine blk_drewN ?_ _ | refine blk_drew ?_ | refine blk_alloc ?_ _));refine blk_put (cs := #[.int .i64 0,.int .i64 0]) ?_ 0 _ rfl;(with_reducible repeat (first | refine blk_drewN ?_ _ | refine blk_drew ?_ | refine blk_alloc ?_ _));exact BK126.out⟩,⟨by repeat (first | (with_reducible first | exact HB.out | apply below_alloc | apply pw_below_drewN | apply below_drew1 | refine below_set ?_ GE126.out) | exact HB.out)⟩⟩
              · replace c10 := Bool.eq_false_iff.mpr c10
                subst c10
                have H1 : (boscagelaw02_Put.j1 k1 a1 a2 x7_1 false l0 (l0.length : Int) x13_1 (decide (((rd_T40 l0 x13_1).f0) ≥ a1)) ((rd_T40 l0 x13_1).f0) ((rd_T40 l0 x13_1).f1)) = some r := by rw [if_neg (show ¬ (false = true) by decide)] at H;exact H
                clear H
                have H := H1
                clear H1
                have H' := Aside0.mk H
                clear H
                have hcz11_0 : w8.cell? ⟨gb126,0,none⟩ = some (.int .i64 0) := (blk_cell BK126.out 0).trans rfl
                have hcz11_1 : w8.cell? ⟨gb126,1,none⟩ = some (.int .i64 0) := (blk_cell BK126.out 1).trans rfl
                have hfz11_0 := blk_frozen BK126.out 0
                have hfz11_1 := blk_frozen BK126.out 1
                go_wp2
                go_meet
                case rel => exact ⟨_,(decide (((rd_T40 l0 x13_1).f0) ≥ a1)),(by first | rfl | (simp;done) | (simp [*];done)),H',⟨by have := HK1.out;first | omega | exact Nat.le_refl _⟩,⟨by (with_reducible repeat (first | apply Kd.R_alloc | apply Kd.R_drewN | apply Kd.R_drew));exact Kd.R_mono (Kd.R_far (p := ⟨gb126,1,none⟩) (Kd.R_far (p := ⟨gb126,0,none⟩) (Kd.R_mono HO_7.out (fun k_ hk => (⟨hk,hk.2⟩ : _ ∧ k_ ≠ gb126))) (fun _ hk => hk.2) (.int .i64 ((rd_T40 l0 x13_1).f0))) (fun _ hk => hk.2) (.int .i64 ((rd_T40 l0 x13_1).f1))) (fun _ hk => hk.1.2)⟩,⟨by (with_reducible repeat (first | refine blk_drewN ?_ _ | refine blk_drew ?_ | refine blk_alloc ?_ _));refine blk_put (cs := #[.int .i64 ((rd_T40 l0 x13_1).f0),.int .i64 0]) ?_ 1 _ rfl;(with_reducible repeat (first | refine blk_drewN ?_ _ | refine blk_drew ?_ | refine blk_alloc ?_ _));refine blk_put (cs := #[.int .i64 0,.int .i64 0]) ?_ 0 _ rfl;(with_reducible repeat (first | refine blk_drewN ?_ _ | refine blk_drew ?_ | refine blk_alloc ?_ _));exact BK126.out⟩,⟨by repeat (first | (with_reducible first | exact HB.out | apply below_alloc | apply pw_below_drewN | apply below_drew1 | refine below_set ?_ GE126.out) | exact HB.out)⟩⟩
            case rest =>
              clear HC7
              try clear c1
              try clear p1
              try clear q1
              try clear hx1
              try clear p2
              try clear c4
              try clear c4b0
              try clear c5
              try clear c5b0
              try clear c6
              try clear c6b0
              try clear c10
              try clear hcz11_0
              try clear hcz11_1
              try clear hcz9_0
              try clear hcz9_1
              try clear hfz11_0
              try clear hfz11_1
              try clear hfz9_0
              try clear hfz9_1
              try clear hx125_0
              try clear hx125_1
              try clear p125
              try clear p2
              try clear q125
              obtain ⟨kq,x24_6,rfl,HA,HJ6,HO_7,BK126,HB⟩ := hcut
              cases kq with
              | zero => exact absurd HA.out (by simp [boscagelaw02_Put.j1])
              | succ kj6 =>
                have H := HA.out
                clear HA
                simp only [boscagelaw02_Put.j1] at H
                by_cases c12 : x24_6 = true
                · subst c12
                  have H1 : (if x7_1.length < 8796093022208 then ((some (x7_1 ++ [(⟨a1,a2⟩ : S40)] : List (S40))).bind fun y127 => (if ((rd_T40 l0 x13_1).f0) = a1 then (boscagelaw02_Put.l0 kj6 a1 a2 y127 true l0 (l0.length : Int) (wrap64 (x13_1 + 1))) else (if y127.length < 8796093022208 then (boscagelaw02_Put.l0 kj6 a1 a2 (y127 ++ [(⟨((rd_T40 l0 x13_1).f0),((rd_T40 l0 x13_1).f1)⟩ : S40)]) true l0 (l0.length : Int) (wrap64 (x13_1 + 1))) else (none)))) else (none)) = some r := by rw [if_pos rfl] at H;exact H
                  clear H
                  have H := H1
                  clear H1
                  by_cases c13 : x7_1.length < 8796093022208
                  · rw [if_pos c13] at H
                    have LMc13 := Aside0.mk c13
                    clear c13
                    obtain ⟨y127,hy127⟩ : ∃ y_ : List (S40),y_ = (x7_1 ++ [(⟨a1,a2⟩ : S40)]) := ⟨_,rfl⟩
                    replace H : (if ((rd_T40 l0 x13_1).f0) = a1 then (boscagelaw02_Put.l0 kj6 a1 a2 y127 true l0 (l0.length : Int) (wrap64 (x13_1 + 1))) else (if y127.length < 8796093022208 then (boscagelaw02_Put.l0 kj6 a1 a2 (y127 ++ [(⟨((rd_T40 l0 x13_1).f0),((rd_T40 l0 x13_1).f1)⟩ : S40)]) true l0 (l0.length : Int) (wrap64 (x13_1 + 1))) else (none))) = some r := by first | (rw [hy127];with_reducible exact H) | (have H2_ := (Option.bind_some _ _).symm.trans H;rw [hy127];with_reducible exact H2_) | (have H2_ := (Option.bind_some _ _).symm.trans H;with_reducible exact H2_) | with_reducible exact H | (rw [hy127];exact H) | exact H
                    have Ny127 := Aside0.mk hy127
                    clear hy127
                    by_cases c14 : ((rd_T40 l0 x13_1).f0) = a1
                    · rw [if_pos c14] at H
                      have c14b0 : (((rd_T40 l0 x13_1).f0) == a1) = true := beq_iff_eq.mpr c14
                      have c14b1 : (((rd_T40 l0 x13_1).f0) != a1) = false := bne_eq_false_iff_eq.mpr c14
                      clear c14
                      have H' := Aside0.mk H
                      clear H
                      go_wp2_with (first | ((with_reducible refine gate_builtin (b := .append) (xs := #[.tmp 25,.tmp 29]) rfl ?_);at_builtin;refine Kd.R_append k40 (w0 := w) w.heap.size rfl (.tmp 25) (.tmp 29) 34 40 (.agg #[(.int .i64 0),(.int .i64 0)]) 16 rfl Try.underlying34 info40 rfl (by decide) (by omega) u7 x7_1 (⟨a1,a2⟩ : S40) [.int .i64 a1,.int .i64 a2] (fun k_ => k_ ≠ gb126) (fun _ => False) rfl rfl ?aP (fun _ hk => hk.elim) ?aF ?aO ?aB ?aS ?aL ?_;(case aP => exact k40_mkM _ _ _ (⟨a1,a2⟩ : S40));(case aB => exact (by repeat (first | (with_reducible first | exact HB.out | apply below_alloc | apply pw_below_drewN | apply below_drew1 | refine below_set ?_ GE126.out) | exact HB.out)));(case aF => exact (fun k_ hk => Kd.freshB (g := gb126) (o := .cells #[.int .i64 ((rd_T40 l0 x13_1).f0),.int .i64 ((rd_T40 l0 x13_1).f1)] 40 (0,0)) (by (with_reducible repeat (first | refine blk_drewN ?_ _ | refine blk_drew ?_ | refine blk_alloc ?_ _));exact BK126.out) k_ hk));(case aO => exact (by (with_reducible repeat (first | apply Kd.R_alloc | apply Kd.R_drewN | apply Kd.R_drew));exact HO_7.out));(case aS => exact (below_size (by repeat (first | (with_reducible first | exact HB.out | apply below_alloc | apply pw_below_drewN | apply below_drew1 | refine below_set ?_ GE126.out) | exact HB.out))));(case aL => have := LMc13.out;omega);intro v128 w15 ho hb hg hat;rw [← Ny127.out] at ho;have n0_ := Aside0.mk (blk_grown (g := gb126) (o := .cells #[.int .i64 ((rd_T40 l0 x13_1).f0),.int .i64 ((rd_T40 l0 x13_1).f1)] 40 (0,0)) (by (with_reducible repeat (first | refine blk_drewN ?_ _ | refine blk_drew ?_ | refine blk_alloc ?_ _));exact BK126.out) hg (Kd.R_away HO_7.out (fun _ hk => hk)));have n1_ := Aside0.mk (hb);have n2_ := Aside0.mk (ho);clear BK126;clear HB;clear HO_7;have BK126 := n0_;have HB := n1_;have HO129 := n2_;clear n0_ n1_ n2_;clear ho hb hg hat;have hcz16_0 : w15.cell? ⟨gb126,0,none⟩ = some (.int .i64 ((rd_T40 l0 x13_1).f0)) := (blk_cell BK126.out 0).trans rfl;have hcz16_1 : w15.cell? ⟨gb126,1,none⟩ = some (.int .i64 ((rd_T40 l0 x13_1).f1)) := (blk_cell BK126.out 1).trans rfl;have hfz16_0 := blk_frozen BK126.out 0;have hfz16_1 := blk_frozen BK126.out 1))
                      go_roundg kj6
                      case measure => have := HK1.out;have := HJ6.out;omega
                      case rel => exact ⟨(y127),(true),(wrap64 (x13_1 + 1)),(by first | rfl | (simp;done) | (simp [*];done)),(by first | rfl | (simp;done) | (simp [*];done)),H',⟨by have := HK1.out;have := HJ6.out;omega⟩,⟨by (with_reducible repeat (first | apply Kd.R_alloc | apply Kd.R_drewN | apply Kd.R_drew));exact Kd.R_mono HO129.out (fun _ hk => trivial)⟩,⟨by repeat (first | (with_reducible first | exact HB.out | apply below_alloc | apply pw_below_drewN | apply below_drew1 | refine below_set ?_ GE126.out) | exact HB.out)⟩⟩
                    · rw [if_neg c14] at H
                      have c14b0 : (((rd_T40 l0 x13_1).f0) == a1) = false := beq_eq_false_iff_ne.mpr c14
                      have c14b1 : (((rd_T40 l0 x13_1).f0) != a1) = true := bne_iff_ne.mpr c14
                      by_cases c17 : y127.length < 8796093022208
                      · rw [if_pos c17] at H
                        have LMc17 := Aside0.mk c17
                        clear c17
                        obtain ⟨y130,hy130⟩ : ∃ y_ : List (S40),y_ = (y127 ++ [(⟨((rd_T40 l0 x13_1).f0),((rd_T40 l0 x13_1).f1)⟩ : S40)]) := ⟨_,rfl⟩
                        replace H : (boscagelaw02_Put.l0 kj6 a1 a2 y130 true l0 (l0.length : Int) (wrap64 (x13_1 + 1))) = some r := by first | (rw [hy130];with_reducible exact H) | (have H2_ := (Option.bind_some _ _).symm.trans H;rw [hy130];with_reducible exact H2_) | (have H2_ := (Option.bind_some _ _).symm.trans H;with_reducible exact H2_) | with_reducible exact H | (rw [hy130];exact H) | exact H
                        have Ny130 := Aside0.mk hy130
                        clear hy130
                        have H' := Aside0.mk H
                        clear H
                        go_wp2_with (first | ((with_reducible refine gate_builtin (b := .append) (xs := #[.tmp 25,.tmp 29]) rfl ?_);at_builtin;refine Kd.R_append k40 (w0 := w) w.heap.size rfl (.tmp 25) (.tmp 29) 34 40 (.agg #[(.int .i64 0),(.int .i64 0)]) 16 rfl Try.underlying34 info40 rfl (by decide) (by omega) u7 x7_1 (⟨a1,a2⟩ : S40) [.int .i64 a1,.int .i64 a2] (fun k_ => k_ ≠ gb126) (fun _ => False) rfl rfl ?aP (fun _ hk => hk.elim) ?aF ?aO ?aB ?aS ?aL ?_;(case aP => exact k40_mkM _ _ _ (⟨a1,a2⟩ : S40));(case aB => exact (by repeat (first | (with_reducible first | exact HB.out | apply below_alloc | apply pw_below_drewN | apply below_drew1 | refine below_set ?_ GE126.out) | exact HB.out)));(case aF => exact (fun k_ hk => Kd.freshB (g := gb126) (o := .cells #[.int .i64 ((rd_T40 l0 x13_1).f0),.int .i64 ((rd_T40 l0 x13_1).f1)] 40 (0,0)) (by (with_reducible repeat (first | refine blk_drewN ?_ _ | refine blk_drew ?_ | refine blk_alloc ?_ _));exact BK126.out) k_ hk));(case aO => exact (by (with_reducible repeat (first | apply Kd.R_alloc | apply Kd.R_drewN | apply Kd.R_drew));exact HO_7.out));(case aS => exact (below_size (by repeat (first | (with_reducible first | exact HB.out | apply below_alloc | apply pw_below_drewN | apply below_drew1 | refine below_set ?_ GE126.out) | exact HB.out))));(case aL => have := LMc13.out;omega);intro v128 w18 ho hb hg hat;rw [← Ny127.out] at ho;have n0_ := Aside0.mk (blk_grown (g := gb126) (o := .cells #[.int .i64 ((rd_T40 l0 x13_1).f0),.int .i64 ((rd_T40 l0 x13_1).f1)] 40 (0,0)) (by (with_reducible repeat (first | refine blk_drewN ?_ _ | refine blk_drew ?_ | refine blk_alloc ?_ _));exact BK126.out) hg (Kd.R_away HO_7.out (fun _ hk => hk)));have n1_ := Aside0.mk (hb);have n2_ := Aside0.mk (ho);clear BK126;clear HB;clear HO_7;have BK126 := n0_;have HB := n1_;have HO129 := n2_;clear n0_ n1_ n2_;clear ho hb hg hat;have hcz19_0 : w18.cell? ⟨gb126,0,none⟩ = some (.int .i64 ((rd_T40 l0 x13_1).f0)) := (blk_cell BK126.out 0).trans rfl;have hcz19_1 : w18.cell? ⟨gb126,1,none⟩ = some (.int .i64 ((rd_T40 l0 x13_1).f1)) := (blk_cell BK126.out 1).trans rfl;have hfz19_0 := blk_frozen BK126.out 0;have hfz19_1 := blk_frozen BK126.out 1) | ((with_reducible refine gate_builtin (b := .append) (xs := #[.tmp 35,.tmp 37]) rfl ?_);at_builtin;refine Kd.R_append k40 (w0 := w) w.heap.size rfl (.tmp 35) (.tmp 37) 34 40 (.agg #[(.int .i64 0),(.int .i64 0)]) 16 rfl Try.underlying34 info40 rfl (by decide) (by omega) v128 y127 (⟨((rd_T40 l0 x13_1).f0),((rd_T40 l0 x13_1).f1)⟩ : S40) [.int .i64 ((rd_T40 l0 x13_1).f0),.int .i64 ((rd_T40 l0 x13_1).f1)] (fun k_ => k_ ≠ gb126) (fun _ => False) rfl rfl ?aP (fun _ hk => hk.elim) ?aF ?aO ?aB ?aS ?aL ?_;(case aP => exact k40_mkM _ _ _ (⟨((rd_T40 l0 x13_1).f0),((rd_T40 l0 x13_1).f1)⟩ : S40));(case aB => exact (by repeat (first | (with_reducible first | exact HB.out | apply below_alloc | apply pw_below_drewN | apply below_drew1 | refine below_set ?_ GE126.out) | exact HB.out)));(case aF => exact (fun k_ hk => Kd.freshB (g := gb126) (o := .cells #[.int .i64 ((rd_T40 l0 x13_1).f0),.int .i64 ((rd_T40 l0 x13_1).f1)] 40 (0,0)) (by (with_reducible repeat (first | refine blk_drewN ?_ _ | refine blk_drew ?_ | refine blk_alloc ?_ _));exact BK126.out) k_ hk));(case aO => exact (by (with_reducible repeat (first | apply Kd.R_alloc | apply Kd.R_drewN | apply Kd.R_drew));exact HO129.out));(case aS => exact (below_size (by repeat (first | (with_reducible first | exact HB.out | apply below_alloc | apply pw_below_drewN | apply below_drew1 | refine below_set ?_ GE126.out) | exact HB.out))));(case aL => have := LMc17.out;omega);intro v131 w20 ho hb hg hat;rw [← Ny130.out] at ho;have n0_ := Aside0.mk (blk_grown (g := gb126) (o := .cells #[.int .i64 ((rd_T40 l0 x13_1).f0),.int .i64 ((rd_T40 l0 x13_1).f1)] 40 (0,0)) (by (with_reducible repeat (first | refine blk_drewN ?_ _ | refine blk_drew ?_ | refine blk_alloc ?_ _));exact BK126.out) hg (Kd.R_away HO129.out (fun _ hk => hk)));have n1_ := Aside0.mk (hb);have n2_ := Aside0.mk (ho);clear BK126;clear HB;clear HO129;have BK126 := n0_;have HB := n1_;have HO132 := n2_;clear n0_ n1_ n2_;clear ho hb hg hat))
                        go_roundg kj6
                        case measure => have := HK1.out;have := HJ6.out;omega
                        case rel => exact ⟨(y130),(true),(wrap64 (x13_1 + 1)),(by first | rfl | (simp;done) | (simp [*];done)),(by first | rfl | (simp;done) | (simp [*];done)),H',⟨by have := HK1.out;have := HJ6.out;omega⟩,⟨by (with_reducible repeat (first | apply Kd.R_alloc | apply Kd.R_drewN | apply Kd.R_drew));exact Kd.R_mono HO132.out (fun _ hk => trivial)⟩,⟨by repeat (first | (with_reducible first | exact HB.out | apply below_alloc | apply pw_below_drewN | apply below_drew1 | refine below_set ?_ GE126.out) | exact HB.out)⟩⟩
                      · rw [if_neg c17] at H
                        exact absurd H (by simp)
                  · rw [if_neg c13] at H
                    exact absurd H (by simp)
                · replace c12 := Bool.eq_false_iff.mpr c12
                  subst c12
                  have H1 : (if ((rd_T40 l0 x13_1).f0) = a1 then (boscagelaw02_Put.l0 kj6 a1 a2 x7_1 x8_1 l0 (l0.length : Int) (wrap64 (x13_1 + 1))) else (if x7_1.length < 8796093022208 then (boscagelaw02_Put.l0 kj6 a1 a2 (x7_1 ++ [(⟨((rd_T40 l0 x13_1).f0),((rd_T40 l0 x13_1).f1)⟩ : S40)]) x8_1 l0 (l0.length : Int) (wrap64 (x13_1 + 1))) else (none))) = some r := by rw [if_neg (show ¬ (false = true) by decide)] at H;exact H
                  clear H
                  have H := H1
                  clear H1
                  by_cases c21 : ((rd_T40 l0 x13_1).f0) = a1
                  · rw [if_pos c21] at H
                    have c21b0 : (((rd_T40 l0 x13_1).f0) == a1) = true := beq_iff_eq.mpr c21
                    have c21b1 : (((rd_T40 l0 x13_1).f0) != a1) = false := bne_eq_false_iff_eq.mpr c21
                    clear c21
                    have H' := Aside0.mk H
                    clear H
                    have hcz22_0 : wc.cell? ⟨gb126,0,none⟩ = some (.int .i64 ((rd_T40 l0 x13_1).f0)) := (blk_cell BK126.out 0).trans rfl
                    have hcz22_1 : wc.cell? ⟨gb126,1,none⟩ = some (.int .i64 ((rd_T40 l0 x13_1).f1)) := (blk_cell BK126.out 1).trans rfl
                    have hfz22_0 := blk_frozen BK126.out 0
                    have hfz22_1 := blk_frozen BK126.out 1
                    go_wp2
                    go_roundg kj6
                    case measure => have := HK1.out;have := HJ6.out;omega
                    case rel => exact ⟨(x7_1),(x8_1),(wrap64 (x13_1 + 1)),(by first | rfl | (simp;done) | (simp [*];done)),(by first | rfl | (simp;done) | (simp [*];done)),H',⟨by have := HK1.out;have := HJ6.out;omega⟩,⟨by (with_reducible repeat (first | apply Kd.R_alloc | apply Kd.R_drewN | apply Kd.R_drew));exact Kd.R_mono HO_7.out (fun _ hk => trivial)⟩,⟨by repeat (first | (with_reducible first | exact HB.out | apply below_alloc | apply pw_below_drewN | apply below_drew1 | refine below_set ?_ GE126.out) | exact HB.out)⟩⟩
                  · rw [if_neg c21] at H
                    have c21b0 : (((rd_T40 l0 x13_1).f0) == a1) = false := beq_eq_false_iff_ne.mpr c21
                    have c21b1 : (((rd_T40 l0 x13_1).f0) != a1) = true := bne_iff_ne.mpr c21
                    by_cases c23 : x7_1.length < 8796093022208
                    · rw [if_pos c23] at H
                      have LMc23 := Aside0.mk c23
                      clear c23
                      obtain ⟨y133,hy133⟩ : ∃ y_ : List (S40),y_ = (x7_1 ++ [(⟨((rd_T40 l0 x13_1).f0),((rd_T40 l0 x13_1).f1)⟩ : S40)]) := ⟨_,rfl⟩
                      replace H : (boscagelaw02_Put.l0 kj6 a1 a2 y133 x8_1 l0 (l0.length : Int) (wrap64 (x13_1 + 1))) = some r := by first | (rw [hy133];with_reducible exact H) | (have H2_ := (Option.bind_some _ _).symm.trans H;rw [hy133];with_reducible exact H2_) | (have H2_ := (Option.bind_some _ _).symm.trans H;with_reducible exact H2_) | with_reducible exact H | (rw [hy133];exact H) | exact H
                      have Ny133 := Aside0.mk hy133
                      clear hy133
                      have H' := Aside0.mk H
                      clear H
                      have hcz24_0 : wc.cell? ⟨gb126,0,none⟩ = some (.int .i64 ((rd_T40 l0 x13_1).f0)) := (blk_cell BK126.out 0).trans rfl
                      have hcz24_1 : wc.cell? ⟨gb126,1,none⟩ = some (.int .i64 ((rd_T40 l0 x13_1).f1)) := (blk_cell BK126.out 1).trans rfl
                      have hfz24_0 := blk_frozen BK126.out 0
                      have hfz24_1 := blk_frozen BK126.out 1
                      go_wp2_with (first | ((with_reducible refine gate_builtin (b := .append) (xs := #[.tmp 35,.tmp 37]) rfl ?_);at_builtin;refine Kd.R_append k40 (w0 := w) w.heap.size rfl (.tmp 35) (.tmp 37) 34 40 (.agg #[(.int .i64 0),(.int .i64 0)]) 16 rfl Try.underlying34 info40 rfl (by decide) (by omega) u7 x7_1 (⟨((rd_T40 l0 x13_1).f0),((rd_T40 l0 x13_1).f1)⟩ : S40) [.int .i64 ((rd_T40 l0 x13_1).f0),.int .i64 ((rd_T40 l0 x13_1).f1)] (fun k_ => k_ ≠ gb126) (fun _ => False) rfl rfl ?aP (fun _ hk => hk.elim) ?aF ?aO ?aB ?aS ?aL ?_;(case aP => exact k40_mkM _ _ _ (⟨((rd_T40 l0 x13_1).f0),((rd_T40 l0 x13_1).f1)⟩ : S40));(case aB => exact (by repeat (first | (with_reducible first | exact HB.out | apply below_alloc | apply pw_below_drewN | apply below_drew1 | refine below_set ?_ GE126.out) | exact HB.out)));(case aF => exact (fun k_ hk => Kd.freshB (g := gb126) (o := .cells #[.int .i64 ((rd_T40 l0 x13_1).f0),.int .i64 ((rd_T40 l0 x13_1).f1)] 40 (0,0)) (by (with_reducible repeat (first | refine blk_drewN ?_ _ | refine blk_drew ?_ | refine blk_alloc ?_ _));exact BK126.out) k_ hk));(case aO => exact (by (with_reducible repeat (first | apply Kd.R_alloc | apply Kd.R_drewN | apply Kd.R_drew));exact HO_7.out));(case aS => exact (below_size (by repeat (first | (with_reducible first | exact HB.out | apply below_alloc | apply pw_below_drewN | apply below_drew1 | refine below_set ?_ GE126.out) | exact HB.out))));(case aL => have := LMc23.out;omega);intro v134 w25 ho hb hg hat;rw [← Ny133.out] at ho;have n0_ := Aside0.mk (blk_grown (g := gb126) (o := .cells #[.int .i64 ((rd_T40 l0 x13_1).f0),.int .i64 ((rd_T40 l0 x13_1).f1)] 40 (0,0)) (by (with_reducible repeat (first | refine blk_drewN ?_ _ | refine blk_drew ?_ | refine blk_alloc ?_ _));exact BK126.out) hg (Kd.R_away HO_7.out (fun _ hk => hk)));have n1_ := Aside0.mk (hb);have n2_ := Aside0.mk (ho);clear BK126;clear HB;clear HO_7;have BK126 := n0_;have HB := n1_;have HO135 := n2_;clear n0_ n1_ n2_;clear ho hb hg hat))
                      go_roundg kj6
                      case measure => have := HK1.out;have := HJ6.out;omega
                      case rel => exact ⟨(y133),(x8_1),(wrap64 (x13_1 + 1)),(by first | rfl | (simp;done) | (simp [*];done)),(by first | rfl | (simp;done) | (simp [*];done)),H',⟨by have := HK1.out;have := HJ6.out;omega⟩,⟨by (with_reducible repeat (first | apply Kd.R_alloc | apply Kd.R_drewN | apply Kd.R_drew));exact Kd.R_mono HO135.out (fun _ hk => trivial)⟩,⟨by repeat (first | (with_reducible first | exact HB.out | apply below_alloc | apply pw_below_drewN | apply below_drew1 | refine below_set ?_ GE126.out) | exact HB.out)⟩⟩
                    · rw [if_neg c23] at H
                      exact absurd H (by simp)
          · rw [if_neg c6] at H
            exact absurd H (by simp)
        · rw [if_neg c5] at H
          exact absurd H (by simp)
      · rw [if_neg c4] at H
        have c4b0 : decide (x13_1 < (l0.length : Int)) = false := decide_eq_false c4
        clear c4
        by_cases c26 : x8_1 = true
        · subst c26
          have H1 : (some x7_1) = some r := by rw [if_pos rfl] at H;exact H
          clear H
          have H := H1
          clear H1
          obtain rfl := Option.some.inj H
          go_wp2
          go_ret
          exact ⟨_,by first | rfl | (simp [errW_none,errW_some] <;> rfl) | (simp [*,errW_none,errW_some] <;> rfl),by (with_reducible repeat (first | apply Kd.R_alloc | apply Kd.R_drewN | apply Kd.R_drew));exact HO_7.out,by repeat (first | (with_reducible first | exact HB.out | apply below_alloc | apply pw_below_drewN | apply below_drew1) | exact HB.out)⟩
        · replace c26 := Bool.eq_false_iff.mpr c26
          subst c26
          have H1 : (if x7_1.length < 8796093022208 then (some (x7_1 ++ [(⟨a1,a2⟩ : S40)])) else (none)) = some r := by rw [if_neg (show ¬ (false = true) by decide)] at H;exact H
          clear H
          have H := H1
          clear H1
          by_cases c27 : x7_1.length < 8796093022208
          · rw [if_pos c27] at H
            have LMc27 := Aside0.mk c27
            clear c27
            obtain ⟨y122,hy122⟩ : ∃ y_ : List (S40),y_ = (x7_1 ++ [(⟨a1,a2⟩ : S40)]) := ⟨_,rfl⟩
            replace H : (some y122) = some r := by first | (rw [hy122];with_reducible exact H) | (have H2_ := (Option.bind_some _ _).symm.trans H;rw [hy122];with_reducible exact H2_) | (have H2_ := (Option.bind_some _ _).symm.trans H;with_reducible exact H2_) | with_reducible exact H | (rw [hy122];exact H) | exact H
            have Ny122 := Aside0.mk hy122
            clear hy122
            obtain rfl := Option.some.inj H
            go_wp2_with (first | ((with_reducible refine gate_builtin (b := .append) (xs := #[.tmp 42,.tmp 46]) rfl ?_);at_builtin;refine Kd.R_append k40 (w0 := w) w.heap.size rfl (.tmp 42) (.tmp 46) 34 40 (.agg #[(.int .i64 0),(.int .i64 0)]) 16 rfl Try.underlying34 info40 rfl (by decide) (by omega) u7 x7_1 (⟨a1,a2⟩ : S40) [.int .i64 a1,.int .i64 a2] (fun _ => True) (fun _ => False) rfl rfl ?aP (fun _ hk => hk.elim) ?aF ?aO ?aB ?aS ?aL ?_;(case aP => exact k40_mkM _ _ _ (⟨a1,a2⟩ : S40));(case aB => exact (by repeat (first | (with_reducible first | exact HB.out | apply below_alloc | apply pw_below_drewN | apply below_drew1) | exact HB.out)));(case aF => exact (fun _ _ => trivial));(case aO => exact (by (with_reducible repeat (first | apply Kd.R_alloc | apply Kd.R_drewN | apply Kd.R_drew));exact HO_7.out));(case aS => exact (below_size (by repeat (first | (with_reducible first | exact HB.out | apply below_alloc | apply pw_below_drewN | apply below_drew1) | exact HB.out))));(case aL => have := LMc27.out;omega);intro v123 w28 ho hb hg hat;rw [← Ny122.out] at ho;have n0_ := Aside0.mk (hb);have n1_ := Aside0.mk (ho);clear HB;clear HO_7;have HB := n0_;have HO124 := n1_;clear n0_ n1_;clear ho hb hg hat))
            go_ret
            exact ⟨_,by first | rfl | (simp [errW_none,errW_some] <;> rfl) | (simp [*,errW_none,errW_some] <;> rfl),by (with_reducible repeat (first | apply Kd.R_alloc | apply Kd.R_drewN | apply Kd.R_drew));exact HO124.out,by repeat (first | (with_reducible first | exact HB.out | apply below_alloc | apply pw_below_drewN | apply below_drew1) | exact HB.out)⟩
          · rw [if_neg c27] at H
            exact absurd H (by simp)

def boscagelaw02_Rising.l0 : Nat → List (S40) → List Int → Int → Int → Option ((List (S40)))
  | 0,_,_,_,_ => none
  | k + 1,x3,x6,x7,x8 => if x8 < x7 then (if 0 ≤ x8 then (if x8 < (x6.length : Int) then ((boscagelaw02_Put.f k x3 (rd x6 x8) (wrap64 (x8 + 100))).bind fun t137 => (boscagelaw02_Rising.l0 k t137 x6 x7 (wrap64 (x8 + 1)))) else (none)) else (none)) else (some x3)
def boscagelaw02_Rising.f (k : Nat) (l0 : List Int) : Option ((List (S40))) := boscagelaw02_Rising.l0 k ([] : List (S40)) l0 (l0.length : Int) 0
set_option maxHeartbeats 8000000 in
set_option maxRecDepth 100000 in
theorem boscagelaw02_Rising.calls (k : Nat) (A0 : Option Addr) (c0 : Nat) (l0 : List Int) (r : List (S40)) (w : World) (hr0 : Kd.C (Kd.int .i64) w A0 l0.length l0) (hc0 : l0.length ≤ c0) (h : boscagelaw02_Rising.f k l0 = some r) :
    Calls Try.prog 44 #[.slice A0 l0.length c0] w fun e w' => ∃ v0_ : Value,e = .returned (v0_) ∧ Kd.R k40 40 w' w.heap.size (fun _ => True) v0_ r ∧ Below w.heap.size w w' := by
  have HR0 := Aside0.mk hr0
  have HC0 := Aside0.mk hc0
  clear hr0 hc0
  have HB := Aside0.mk (Below.refl w.heap.size w)
  have H : (boscagelaw02_Rising.l0 k ([] : List (S40)) l0 (l0.length : Int) 0) = some r := h
  clear h
  have H' := Aside0.mk H
  clear H
  go_enter Try.func44,Try.ntmps44
  go_wp2
  go_loopg [3,8] k (fun kq v3 v8 w' => ∃ (x3_1 : List (S40)) (x8_1 : Int),v8 = .int .i64 x8_1 ∧ Aside0 (boscagelaw02_Rising.l0 kq x3_1 l0 (l0.length : Int) x8_1 = some r) ∧ Aside0 (kq ≤ k) ∧ Aside0 (Kd.R k40 40 w' w.heap.size (fun _ => True) v3 x3_1) ∧ Aside0 (Below w.heap.size w w'))
  case atStart => exact ⟨(([] : List (S40))),(0),(by first | rfl | (simp;done) | (simp [*];done)),H',⟨Nat.le_refl _⟩,⟨by first | exact Kd.R_nil _ _ _ _ _ | exact Kd.N_nil _ _ _ _ _ | exact Kd.V_nil _ _ _ _ _ | exact Kd.Q_nil _ _ _ _ _ | exact Kd.S_nil _ _ _ _ _⟩,⟨by repeat (first | (with_reducible first | exact HB.out | apply below_alloc | apply pw_below_drewN | apply below_drew1) | exact HB.out)⟩⟩
  case round =>
    clear H'
    obtain ⟨x3_1,x8_1,rfl,HA,HK1,HO_3,HB⟩ := hrel
    cases gk with
    | zero => exact absurd HA.out (by simp [boscagelaw02_Rising.l0])
    | succ k1 =>
      have H := HA.out
      clear HA
      simp only [boscagelaw02_Rising.l0] at H
      by_cases c2 : x8_1 < (l0.length : Int)
      · rw [if_pos c2] at H
        have c2b0 : decide (x8_1 < (l0.length : Int)) = true := decide_eq_true c2
        clear c2
        by_cases c3 : 0 ≤ x8_1
        · rw [if_pos c3] at H
          have c3b0 : decide (0 ≤ x8_1) = true := decide_eq_true c3
          clear c3
          by_cases c4 : x8_1 < (l0.length : Int)
          · rw [if_pos c4] at H
            have c4b0 : decide (x8_1 < (l0.length : Int)) = true := decide_eq_true c4
            clear c4
            replace H := Option.bind_eq_some_iff.mp H
            obtain ⟨t137,A50,H⟩ := H
            replace H : (boscagelaw02_Rising.l0 k1 t137 l0 (l0.length : Int) (wrap64 (x8_1 + 1))) = some r := H
            have A5 := Aside0.mk A50
            clear A50
            have H' := Aside0.mk H
            clear H
            have p136 : 0 ≤ (x8_1 : Int) := of_decide_eq_true (by first | (with_reducible assumption) | assumption)
            have q136 : x8_1 < (l0.length : Int) := of_decide_eq_true (by first | (with_reducible assumption) | assumption)
            obtain ⟨ad136,e136,hx136_0⟩ := Kd.at_int HR0.out x8_1 p136 q136
            cases e136
            replace hx136_0 := (HB.out.cell (World.block_lt_of_cell? w _ hx136_0)).trans hx136_0
            replace p136 := eq_true p136
            replace q136 := eq_true q136
            obtain ⟨Ao6,co6,eo6⟩ := Kd.R_slice HO_3.out
            subst eo6
            go_wp2_with (first | ((with_reducible refine gate_callee (f := 69) rfl ?_);refine goesL_ (some 17) rfl rfl Try.func69 (by kernel_rfl) rfl #[.slice Ao6 x3_1.length co6,.int .i64 (rd l0 x8_1),.int .i64 (wrap64 (x8_1 + 100))] rfl (by (try simp only [List.map_toArray,List.map_cons,List.map_nil]);first | done | rfl | (simp only [List.length_drop,List.length_take];rfl)) ?_;(with_reducible refine (boscagelaw02_Put.calls k1 _ _ x3_1 (rd l0 x8_1) (wrap64 (x8_1 + 100)) t137 _ ?side1 ?side2 A5.out).mono ?_);(case side1 => repeat (first | exact (Kd.R_reads' HO_3.out).2.2 | (with_reducible refine Kd.C_alloc ?_ _) | (with_reducible refine Kd.C_drewN ?_ _) | (with_reducible refine Kd.C_drew ?_)));(case side2 => exact (Kd.R_reads' HO_3.out).2.1);rintro e w7 ⟨v138,rfl,ho0,hb⟩;refine ⟨_,rfl,?_⟩;have n0_ := Aside0.mk (Kd.R_elder' (by (with_reducible repeat (first | apply Kd.R_alloc | apply Kd.R_drewN | apply Kd.R_drew));exact HO_3.out) (Kd.R_base ho0) hb);have n1_ := Aside0.mk (Kd.R_lower (Kd.R_new' ho0 (Kd.R_lt (by (with_reducible repeat (first | apply Kd.R_alloc | apply Kd.R_drewN | apply Kd.R_drew));exact HO_3.out))) (below_size (by repeat (first | (with_reducible first | exact HB.out | apply below_alloc | apply pw_below_drewN | apply below_drew1) | exact HB.out))));have n2_ := Aside0.mk (below_step (by repeat (first | (with_reducible first | exact HB.out | apply below_alloc | apply pw_below_drewN | apply below_drew1) | exact HB.out)) hb);clear HO_3;clear HB;have HO_3 := n0_;have HO139 := n1_;have HB := n2_;clear n0_ n1_ n2_;(try clear hb);(try clear hb2);(try clear hk);(try clear hi);(try clear ho0)))
            go_roundg k1
            case measure => have := HK1.out;omega
            case rel => exact ⟨(t137),(wrap64 (x8_1 + 1)),(by first | rfl | (simp;done) | (simp [*];done)),H',⟨by have := HK1.out;omega⟩,⟨by (with_reducible repeat (first | apply Kd.R_alloc | apply Kd.R_drewN | apply Kd.R_drew));exact Kd.R_mono HO139.out (fun _ hk => trivial)⟩,⟨by repeat (first | (with_reducible first | exact HB.out | apply below_alloc | apply pw_below_drewN | apply below_drew1) | exact HB.out)⟩⟩
          · rw [if_neg c4] at H
            exact absurd H (by simp)
        · rw [if_neg c3] at H
          exact absurd H (by simp)
      · rw [if_neg c2] at H
        have c2b0 : decide (x8_1 < (l0.length : Int)) = false := decide_eq_false c2
        clear c2
        obtain rfl := Option.some.inj H
        go_wp2
        go_ret
        exact ⟨_,by first | rfl | (simp [errW_none,errW_some] <;> rfl) | (simp [*,errW_none,errW_some] <;> rfl),by (with_reducible repeat (first | apply Kd.R_alloc | apply Kd.R_drewN | apply Kd.R_drew));exact HO_3.out,by repeat (first | (with_reducible first | exact HB.out | apply below_alloc | apply pw_below_drewN | apply below_drew1) | exact HB.out)⟩

def enc40 (x : S40) : List Value := [.int .i64 x.f0,.int .i64 x.f1]
theorem flat40 : Flat k40 enc40 := ⟨fun w x cs => ⟨fun h => k40_open h,fun h => h ▸ k40_mk w x⟩,fun w b o x cs => ⟨fun h => k40_openM h,fun h => h ▸ k40_mkM w b o x⟩,fun _ => rfl,by decide⟩
theorem at40 {w wr : World} {A : Option Addr} {l : List S40} (hr : Kd.C k40 w A l.length l) (hb : Below w.heap.size w wr) (h : Nat) (p : S40) (hp : l[h]? = some p) : ∃ b o,A = some ⟨b,o,none⟩ ∧ wr.cell? ⟨b,o + h * 2,none⟩ = some (.int .i64 p.f0) ∧ wr.cell? ⟨b,o + h * 2 + 1,none⟩ = some (.int .i64 p.f1) := by
  rcases C_at flat40 (Kd.C_below hr hb) with h0 | ⟨b,o,rfl,hc⟩
  · have h1 := flatMap_get flat40 l h 0 p _ hp rfl
    rw [h0] at h1
    cases h1
  · exact ⟨b,o,rfl,hc _ _ (flatMap_get flat40 l h 0 p _ hp rfl),hc _ _ (flatMap_get flat40 l h 1 p _ hp rfl)⟩
abbrev srt (l : List S40) : Prop := l.Pairwise (fun a b => a.f0 < b.f0)
def kcnt (l : List S40) (k : Int) : Nat := l.countP (fun p => decide (p.f0 < k))
def khas (l : List S40) (k : Int) : Bool := l.any (fun p => decide (p.f0 = k))
/-- In a list whose keys rise: how many are below a key, and whether it is there. -/
def leaf_Leaf_find.f (l0 : List S40) (a1 : Int) : Option (Int × Bool) := if srt l0 ∧ l0.length < 8796093022208 then some ((kcnt l0 a1 : Int),khas l0 a1) else none
theorem kcnt_le (l : List S40) (k : Int) : kcnt l k ≤ l.length := List.countP_le_length
theorem kcnt_boundary (k : Int) : ∀ (l : List S40) (i : Nat),i ≤ l.length → (∀ t p,t < i → l[t]? = some p → p.f0 < k) → (∀ t p,i ≤ t → l[t]? = some p → k ≤ p.f0) → kcnt l k = i
  | [],i,hi,_,_ => by simp at hi;simp [hi,kcnt]
  | a :: r,0,_,_,h2 => by
    unfold kcnt
    rw [List.countP_eq_zero]
    intro x hx
    obtain ⟨t,ht,rfl⟩ := List.getElem_of_mem hx
    have := h2 t _ (Nat.zero_le _) (List.getElem?_eq_getElem ht)
    simpa using this
  | a :: r,i + 1,hi,h1,h2 => by
    have ha : decide (a.f0 < k) = true := decide_eq_true (h1 0 a (Nat.succ_pos _) rfl)
    have := kcnt_boundary k r i (by simpa using hi) (fun t p ht hp => h1 (t + 1) p (by omega) (by simpa using hp)) (fun t p h3 h4 => h2 (t + 1) p (by omega) (by simpa using h4))
    unfold kcnt at this ⊢
    rw [List.countP_cons_of_pos (by simpa using ha),this]
theorem khas_at {l : List S40} (hs : srt l) (k : Int) (i : Nat) (h1 : ∀ t p,t < i → l[t]? = some p → p.f0 < k) (h2 : ∀ t p,i ≤ t → l[t]? = some p → k ≤ p.f0) : khas l k = true ↔ ∃ p,l[i]? = some p ∧ p.f0 = k := by
  unfold khas
  rw [List.any_eq_true]
  constructor
  · rintro ⟨x,hx,he⟩
    obtain ⟨t,ht,rfl⟩ := List.getElem_of_mem hx
    have he : (l[t]).f0 = k := by simpa using he
    have h3 : i ≤ t := by
      refine Nat.le_of_not_lt fun h => ?_
      have := h1 t _ h (List.getElem?_eq_getElem ht)
      omega
    have hi : i < l.length := by omega
    refine ⟨l[i],List.getElem?_eq_getElem hi,?_⟩
    rcases Nat.lt_or_ge i t with h | h
    · have h4 := List.pairwise_iff_getElem.1 hs i t hi ht h
      have h5 := h2 i _ (Nat.le_refl _) (List.getElem?_eq_getElem hi)
      omega
    · obtain rfl : i = t := by omega
      exact he
  · rintro ⟨p,hp,he⟩
    exact ⟨p,List.mem_of_getElem? hp,by simpa using he⟩
def cmp3 (a k : Int) : Int := if a < k then -1 else if a > k then 1 else 0
set_option maxHeartbeats 2000000 in
set_option maxRecDepth 100000 in
theorem cmp_calls (p : S40) (k : Int) (w : World) :
    Calls Try.prog 124 #[.agg #[.int .i64 p.f0,.int .i64 p.f1],.int .i64 k] w fun e w' => e = .returned (.int .i64 (cmp3 p.f0 k)) ∧ Below w.heap.size w w' := by
  have hu40 := Try.underlying40
  generalize p.f0 = a
  generalize p.f1 = b
  by_cases h1 : a < k
  · have hd : cmp3 a k = -1 := by simp [cmp3,h1]
    rw [hd]
    clear hd
    go_enter Try.func124,Try.ntmps124
    go_wp2
    go_ret
    exact ⟨rfl,(Below.refl _ _).alloc (Nat.le_refl _) _⟩
  · by_cases h2 : a > k
    · have hd : cmp3 a k = 1 := by simp [cmp3,h1,h2]
      rw [hd]
      clear hd
      go_enter Try.func124,Try.ntmps124
      go_wp2
      go_ret
      exact ⟨rfl,(Below.refl _ _).alloc (Nat.le_refl _) _⟩
    · have hd : cmp3 a k = 0 := by simp [cmp3,h1,h2]
      rw [hd]
      clear hd
      go_enter Try.func124,Try.ntmps124
      go_wp2
      go_ret
      exact ⟨rfl,(Below.refl _ _).alloc (Nat.le_refl _) _⟩
set_option maxHeartbeats 4000000 in
set_option maxRecDepth 100000 in
theorem search_calls (A0 : Option Addr) (c0 : Nat) (l0 : List S40) (a1 : Int) (w : World) (hr0 : Kd.C k40 w A0 l0.length l0) (hs : srt l0) (hl : l0.length < 8796093022208) :
    Calls Try.prog 123 #[.slice A0 l0.length c0,.int .i64 a1,.func (.func 124) #[] #[]] w fun e w' => e = .returned (.tuple #[.int .i64 (kcnt l0 a1 : Int),.bool (khas l0 a1)]) ∧ Below w.heap.size w w' := by
  have hu40 := Try.underlying40
  have HR := Lib.hid hr0
  have HS := Lib.hid hs
  clear hr0 hs
  have S0 := Lib.hid (Below.refl w.heap.size w)
  generalize hcnt : (kcnt l0 a1 : Int) = cnt
  have CN := Lib.hid hcnt
  clear hcnt
  generalize hfin : khas l0 a1 = fin
  have FIN := Lib.hid hfin
  clear hfin
  go_enter Try.func123,Try.ntmps123
  go_wp2
  go_loopg [9,10] l0.length (fun kx s9 s10 wr => ∃ lo hi : Nat,s9 = .int .i64 lo ∧ s10 = .int .i64 hi ∧ lo ≤ hi ∧ hi ≤ l0.length ∧ hi - lo ≤ kx ∧ Hid (Below w.heap.size w wr) ∧
    Hid ((∀ t p,t < lo → l0[t]? = some p → p.f0 < a1) ∧ (∀ t p,hi ≤ t → l0[t]? = some p → a1 ≤ p.f0)))
  case atStart => exact ⟨0,l0.length,rfl,rfl,Nat.zero_le _,Nat.le_refl _,by omega,S0,Lib.hid ⟨fun t p ht => absurd ht (Nat.not_lt_zero _),fun t p h1 h2 => by rw [List.getElem?_eq_none h1] at h2;cases h2⟩⟩
  case round =>
    clear S0
    obtain ⟨lo,hi,rfl,rfl,hlh,hin,hg,S1,I⟩ := hrel
    by_cases hlt : lo < hi
    · have hm : (lo + hi) / 2 < l0.length := by omega
      obtain ⟨p,hp⟩ : ∃ p,l0[(lo + hi) / 2]? = some p := ⟨_,List.getElem?_eq_getElem hm⟩
      obtain ⟨b,o,rfl,hx0,hx1⟩ := at40 HR.out S1.out _ p hp
      have HP := Lib.hid hp
      clear hp
      have hc := cmp_calls p a1 wr
      by_cases hyx : p.f0 < a1
      · have hy : cmp3 p.f0 a1 = -1 := by simp [cmp3,hyx]
        rw [hy] at hc
        clear hy
        have I2 : Hid ((∀ t p,t < (lo + hi) / 2 + 1 → l0[t]? = some p → p.f0 < a1) ∧ (∀ t p,hi ≤ t → l0[t]? = some p → a1 ≤ p.f0)) := Lib.hid ⟨fun t q ht hq => by
          rcases Nat.lt_or_ge t ((lo + hi) / 2) with h | h
          · obtain ⟨ht',rfl⟩ := List.getElem?_eq_some_iff.1 hq
            obtain ⟨hm',rfl⟩ := List.getElem?_eq_some_iff.1 HP.out
            have := List.pairwise_iff_getElem.1 HS.out t _ ht' hm' h
            omega
          · obtain rfl : t = (lo + hi) / 2 := by omega
            have := HP.out
            rw [hq] at this
            obtain rfl := Option.some.inj this
            exact hyx,I.out.2⟩
        clear I
        generalize p.f0 = pa at hc hyx hx0
        generalize p.f1 = pb at hc hx1
        go_wp2_with (go_at_call 124;refine hc.mono ?_;rintro e w' ⟨rfl,hb1⟩)
        go_roundg (hi - ((lo + hi) / 2 + 1))
        case measure => omega
        case rel => exact ⟨(lo + hi) / 2 + 1,hi,by rw [show ((lo : Int) + (hi : Int)) / 2 + 1 = (((lo + hi) / 2 + 1 : Nat) : Int) by omega],rfl,by omega,hin,Nat.le_refl _,Lib.hid (below_then S1.out S1.out.size hb1),I2⟩
      · have I2 : Hid ((∀ t p,t < lo → l0[t]? = some p → p.f0 < a1) ∧ (∀ t p,(lo + hi) / 2 ≤ t → l0[t]? = some p → a1 ≤ p.f0)) := Lib.hid ⟨I.out.1,fun t q ht hq => by
          rcases Nat.lt_or_ge ((lo + hi) / 2) t with h | h
          · obtain ⟨ht',rfl⟩ := List.getElem?_eq_some_iff.1 hq
            obtain ⟨hm',rfl⟩ := List.getElem?_eq_some_iff.1 HP.out
            have := List.pairwise_iff_getElem.1 HS.out _ t hm' ht' h
            omega
          · obtain rfl : t = (lo + hi) / 2 := by omega
            have := HP.out
            rw [hq] at this
            obtain rfl := Option.some.inj this
            omega⟩
        clear I
        have hy : 0 ≤ cmp3 p.f0 a1 := by unfold cmp3;split;omega;split <;> omega
        generalize cmp3 p.f0 a1 = cc at hc hy
        generalize p.f0 = pa at hc hyx hx0
        generalize p.f1 = pb at hc hx1
        go_wp2_with (go_at_call 124;refine hc.mono ?_;rintro e w' ⟨rfl,hb1⟩)
        go_roundg ((lo + hi) / 2 - lo)
        case measure => omega
        case rel => exact ⟨lo,(lo + hi) / 2,rfl,by rw [show ((lo : Int) + (hi : Int)) / 2 = (((lo + hi) / 2 : Nat) : Int) by omega],by omega,by omega,Nat.le_refl _,Lib.hid (below_then S1.out S1.out.size hb1),I2⟩
    · obtain rfl : hi = lo := by omega
      have ecnt : kcnt l0 a1 = hi := kcnt_boundary a1 l0 hi hin I.out.1 I.out.2
      have hh := khas_at HS.out a1 hi I.out.1 I.out.2
      rw [FIN.out] at hh
      obtain rfl : cnt = (hi : Int) := by rw [← CN.out,ecnt]
      clear CN FIN ecnt I hlt hlh hg
      by_cases hn : hi < l0.length
      · obtain ⟨p,hp⟩ : ∃ p,l0[hi]? = some p := ⟨_,List.getElem?_eq_getElem hn⟩
        obtain ⟨b,o,rfl,hx0,hx1⟩ := at40 HR.out S1.out _ p hp
        have hc := cmp_calls p a1 wr
        have hfin : fin = decide (p.f0 = a1) := by
          rw [Bool.eq_iff_iff,hh,hp]
          simp
        clear hh hp
        by_cases he : p.f0 = a1
        · rw [decide_eq_true he] at hfin
          subst hfin
          have hy : cmp3 p.f0 a1 = 0 := by simp [cmp3,he]
          rw [hy] at hc
          clear hy he
          generalize p.f0 = pa at hc hx0
          generalize p.f1 = pb at hc hx1
          go_wp2_with (go_at_call 124;refine hc.mono ?_;rintro e w' ⟨rfl,hb1⟩)
          go_ret2
          exact ⟨rfl,below_then S1.out S1.out.size hb1⟩
        · rw [decide_eq_false he] at hfin
          subst hfin
          have hy : (cmp3 p.f0 a1 == 0) = false := by unfold cmp3;split;rfl;split;rfl;omega
          clear he
          generalize cmp3 p.f0 a1 = cc at hc hy
          generalize p.f0 = pa at hc hx0
          generalize p.f1 = pb at hc hx1
          go_wp2_with (go_at_call 124;refine hc.mono ?_;rintro e w' ⟨rfl,hb1⟩)
          go_ret2
          exact ⟨rfl,below_then S1.out S1.out.size hb1⟩
      · have hfin : fin = false := by
          rw [Bool.eq_false_iff]
          intro h
          obtain ⟨p,hp,_⟩ := hh.1 h
          rw [List.getElem?_eq_none (by omega)] at hp
          cases hp
        clear hh
        subst hfin
        go_wp2
        go_ret2
        exact ⟨rfl,S1.out⟩
set_option maxHeartbeats 2000000 in
set_option maxRecDepth 100000 in
theorem leaf_Leaf_find.calls (A0 : Option Addr) (c0 : Nat) (l0 : List S40) (a1 : Int) (r1 : Int) (r2 : Bool) (w : World) (hr0 : Kd.C k40 w A0 l0.length l0) (hc0 : l0.length ≤ c0) (h : leaf_Leaf_find.f l0 a1 = some (r1,r2)) :
    Calls Try.prog 98 #[.slice A0 l0.length c0,.int .i64 a1] w fun e w' => e = .returned (.tuple #[.int .i64 r1,.bool r2]) ∧ Below w.heap.size w w' := by
  unfold leaf_Leaf_find.f at h
  split at h
  · rename_i hs
    obtain ⟨rfl,rfl⟩ := Prod.mk.inj (Option.some.inj h)
    clear h
    have hc := search_calls A0 c0 l0 a1 w hr0 hs.1 hs.2
    generalize (kcnt l0 a1 : Int) = cnt at hc
    generalize khas l0 a1 = fin at hc
    clear hs hr0
    go_enter Try.func98,Try.ntmps98
    go_wp2_with (go_at_call 123;refine hc.mono ?_;rintro e w' ⟨rfl,hb1⟩)
    go_ret2
    exact ⟨rfl,hb1⟩
  · cases h

def leaf_Leaf_Get.f (l0 : List (S40)) (a1 : Int) : Option (Int × Bool) := (leaf_Leaf_find.f l0 a1).bind fun bt177 => (if bt177.2 = true then (if 0 ≤ bt177.1 then (if bt177.1 < (l0.length : Int) then (some ((rd_T40 l0 bt177.1).f1,true)) else (none)) else (none)) else (some (0,false)))
set_option maxHeartbeats 8000000 in
set_option maxRecDepth 100000 in
theorem leaf_Leaf_Get.calls (A0 : Option Addr) (c0 : Nat) (l0 : List (S40)) (a1 : Int) (r1 : Int) (r2 : Bool) (w : World) (hr0 : Kd.C k40 w A0 l0.length l0) (hc0 : l0.length ≤ c0) (h : leaf_Leaf_Get.f l0 a1 = some (r1,r2)) :
    Calls Try.prog 45 #[.slice A0 l0.length c0,.int .i64 a1] w fun e w' => e = .returned (.tuple #[.int .i64 r1,.bool r2]) ∧ Below w.heap.size w w' := by
  have HR0 := Aside0.mk hr0
  have HC0 := Aside0.mk hc0
  clear hr0 hc0
  have HB := Aside0.mk (Below.refl w.heap.size w)
  have H : ((leaf_Leaf_find.f l0 a1).bind fun bt177 => (if bt177.2 = true then (if 0 ≤ bt177.1 then (if bt177.1 < (l0.length : Int) then (some ((rd_T40 l0 bt177.1).f1,true)) else (none)) else (none)) else (some (0,false)))) = some (r1,r2) := h
  clear h
  replace H := Option.bind_eq_some_iff.mp H
  obtain ⟨⟨t177,t178⟩,A30,H⟩ := H
  replace H : (if t178 = true then (if 0 ≤ t177 then (if t177 < (l0.length : Int) then (some ((rd_T40 l0 t177).f1,true)) else (none)) else (none)) else (some (0,false))) = some (r1,r2) := H
  have A3 := Aside0.mk A30
  clear A30
  by_cases c4 : t178 = true
  · subst c4
    have H1 : (if 0 ≤ t177 then (if t177 < (l0.length : Int) then (some ((rd_T40 l0 t177).f1,true)) else (none)) else (none)) = some (r1,r2) := by rw [if_pos rfl] at H;exact H
    clear H
    have H := H1
    clear H1
    by_cases c5 : 0 ≤ t177
    · rw [if_pos c5] at H
      have c5b0 : decide (0 ≤ t177) = true := decide_eq_true c5
      clear c5
      by_cases c6 : t177 < (l0.length : Int)
      · rw [if_pos c6] at H
        have c6b0 : decide (t177 < (l0.length : Int)) = true := decide_eq_true c6
        clear c6
        simp only [Option.some.injEq,Prod.mk.injEq] at H
        obtain ⟨rfl,rfl⟩ := H
        go_enter Try.func45,Try.ntmps45
        go_wp2_with (first | ((with_reducible refine gate_callee (f := 98) rfl ?_);refine goesL_ (some 11) rfl rfl Try.func98 (by kernel_rfl) rfl #[.slice A0 l0.length c0,.int .i64 a1] rfl (by (try simp only [List.map_toArray,List.map_cons,List.map_nil]);first | done | rfl | (simp only [List.length_drop,List.length_take];rfl)) ?_;(with_reducible refine (leaf_Leaf_find.calls _ _ l0 a1 t177 true _ ?side1 ?side2 A3.out).mono ?_);(case side1 => repeat (first | exact HR0.out | (with_reducible refine Kd.C_alloc ?_ _) | (with_reducible refine Kd.C_drewN ?_ _) | (with_reducible refine Kd.C_drew ?_)));(case side2 => exact HC0.out);rintro e w7 ⟨rfl,hb⟩;refine ⟨_,rfl,?_⟩;have n0_ := Aside0.mk (below_step (by repeat (first | (with_reducible first | exact HB.out | apply below_alloc | apply pw_below_drewN | apply below_drew1) | exact HB.out)) hb);clear HB;have HB := n0_;clear n0_;(try clear hb);(try clear hb2);(try clear hk);(try clear hi);have p179 : 0 ≤ (t177 : Int) := of_decide_eq_true (by first | (with_reducible assumption) | assumption);have q179 : t177 < (l0.length : Int) := of_decide_eq_true (by first | (with_reducible assumption) | assumption);obtain ⟨ad179,e179,hx179_0,hx179_1⟩ := at_T40 HR0.out t177 p179 q179;cases e179;replace hx179_0 := (HB.out.cell (World.block_lt_of_cell? w _ hx179_0)).trans hx179_0;replace hx179_1 := (HB.out.cell (World.block_lt_of_cell? w _ hx179_1)).trans hx179_1;replace p179 := eq_true p179;replace q179 := eq_true q179))
        go_ret2
        exact ⟨by first | rfl | (simp [errW_none,errW_some] <;> rfl) | (simp [*,errW_none,errW_some] <;> rfl),by repeat (first | (with_reducible first | exact HB.out | apply below_alloc | apply pw_below_drewN | apply below_drew1) | exact HB.out)⟩
      · rw [if_neg c6] at H
        exact absurd H (by simp)
    · rw [if_neg c5] at H
      exact absurd H (by simp)
  · replace c4 := Bool.eq_false_iff.mpr c4
    subst c4
    have H1 : (some (0,false)) = some (r1,r2) := by rw [if_neg (show ¬ (false = true) by decide)] at H;exact H
    clear H
    have H := H1
    clear H1
    simp only [Option.some.injEq,Prod.mk.injEq] at H
    obtain ⟨rfl,rfl⟩ := H
    go_enter Try.func45,Try.ntmps45
    go_wp2_with (first | ((with_reducible refine gate_callee (f := 98) rfl ?_);refine goesL_ (some 11) rfl rfl Try.func98 (by kernel_rfl) rfl #[.slice A0 l0.length c0,.int .i64 a1] rfl (by (try simp only [List.map_toArray,List.map_cons,List.map_nil]);first | done | rfl | (simp only [List.length_drop,List.length_take];rfl)) ?_;(with_reducible refine (leaf_Leaf_find.calls _ _ l0 a1 t177 false _ ?side1 ?side2 A3.out).mono ?_);(case side1 => repeat (first | exact HR0.out | (with_reducible refine Kd.C_alloc ?_ _) | (with_reducible refine Kd.C_drewN ?_ _) | (with_reducible refine Kd.C_drew ?_)));(case side2 => exact HC0.out);rintro e w8 ⟨rfl,hb⟩;refine ⟨_,rfl,?_⟩;have n0_ := Aside0.mk (below_step (by repeat (first | (with_reducible first | exact HB.out | apply below_alloc | apply pw_below_drewN | apply below_drew1) | exact HB.out)) hb);clear HB;have HB := n0_;clear n0_;(try clear hb);(try clear hb2);(try clear hk);(try clear hi)))
    go_ret2
    exact ⟨by first | rfl | (simp [errW_none,errW_some] <;> rfl) | (simp [*,errW_none,errW_some] <;> rfl),by repeat (first | (with_reducible first | exact HB.out | apply below_alloc | apply pw_below_drewN | apply below_drew1) | exact HB.out)⟩

def leaf_Pair_99.f (l0 : List S40) : Option (List S40) := if l0.length < 8796093022208 then some l0 else none
theorem leaf_Pair_99.f_some {l0 r : List S40} (h : leaf_Pair_99.f l0 = some r) : l0.length < 8796093022208 ∧ r = l0 := by
  unfold leaf_Pair_99.f at h
  split at h
  · exact ⟨by assumption,(Option.some.inj h).symm⟩
  · cases h
set_option maxHeartbeats 2000000 in
set_option maxRecDepth 100000 in
theorem leaf_Pair_99.calls (A0 : Option Addr) (c0 : Nat) (l0 : List S40) (r : List S40) (w : World) (hr0 : Kd.C k40 w A0 l0.length l0) (hc0 : l0.length ≤ c0) (h : leaf_Pair_99.f l0 = some r) :
    Calls Try.prog 99 #[.slice A0 l0.length c0] w fun e w' => ∃ v0_ : Value,e = .returned v0_ ∧ Kd.R k40 40 w' w.heap.size (fun _ => True) v0_ r ∧ Below w.heap.size w w' := by
  obtain ⟨hl,rfl⟩ := leaf_Pair_99.f_some h
  clear h
  have q : ∀ (w : World) (a : Option Addr) (n c n' c' : Nat),(binOp .eql 34 (.slice a n c) (.slice none n' c')).run Try.prog w = .ok (.bool a.isNone) w := fun w a n c n' c' => Lib.run_eql_slice_nil w _ _ a n c n' c' Try.underlying34
  have hat := Lib.hid (C_at flat40 hr0)
  have hlen := Lib.hid (flatMap_length flat40 r)
  cases A0 with
  | none =>
    have h0 : r = [] := by
      rcases hat.out with h | ⟨b,o,h,_⟩
      · rw [h] at hlen
        have h1 := hlen.out
        exact List.eq_nil_of_length_eq_zero ((Nat.mul_eq_zero.1 h1.symm).resolve_right (by decide))
      · cases h
    subst h0
    clear hat hlen hr0
    go_enter Try.func99,Try.ntmps99
    go_wp2
    go_ret
    exact ⟨_,rfl,Kd.R_nil _ _ _ _ _,Below.refl _ _⟩
  | some ad =>
    obtain ⟨i0,hi,hz0,hz1,hz2⟩ := info_parts info40
    have hnews : Hid (∀ j u,(r.flatMap enc40)[j]? = some u → w.cell? (ad.add j) = some u) := Lib.hid (by
      rcases hat.out with h | ⟨b,o,h,hc⟩
      · rw [h];intro j u hu;simp at hu
      · obtain rfl := Option.some.inj h
        intro j u hu
        rw [add_lit']
        exact hc j u hu)
    clear hat hr0
    go_enter Try.func99,Try.ntmps99
    go_wp2_with (at_builtin;refine wpList_append_own _ rfl _ _ 34 rfl w.heap.size 40 i0 _ _ _ Try.underlying34 hi hz0 hz1 hz2 rfl (by decide) _ _ _ rfl (World.ownsRow_made w #[] 0 (Nat.le_refl _) (Nat.zero_le _) (by simp)) ad r.length c0 (r.flatMap enc40) rfl ?qc1 ?qc2 ?qc3 ?qc4 ?qc5 ?qc6 ?_)
    case qc1 => exact hlen.out
    case qc2 =>
      intro j u hj
      exact Lib.cell?_alloc_some _ (hnews.out j u hj)
    case qc3 => exact Flat.ones flat40 r
    case qc4 => rw [Nat.zero_add];simp only [maxLen];omega
    case qc5 => rw [Nat.zero_add];omega
    case qc6 => simp
    intro v' w1 hown hgrow hnil
    go_wp2
    go_ret
    refine ⟨v',rfl,(R_iff flat40).2 ⟨fun _ _ => trivial,hown⟩,?_⟩
    exact ((Below.refl _ w).alloc (Nat.le_refl _) _).grown hgrow (by simp) (by intro k hk;simp [Value.ownBlock] at hk;omega)

end Go.Proofs.Ytkoiffkonjpoiaa.Q
namespace Go.Proofs.Ytkoiffkonjpoiaa.Q
open Go.RowKit Go.Proofs.YtkoiffkonjpoiaaW.PrintWords Go.Proofs.YtkoiffkonjpoiaaW.PrintLast Go.Proofs.YtkoiffkonjpoiaaW.PrintMore Go.Proofs.YtkoiffkonjpoiaaX
attribute [local go_sem] max2_int min2_int max_two min_two max_three min_three max_four min_four   -- for this text's walks alone
set_option linter.unusedVariables false
set_option linter.unusedSimpArgs false

theorem eqA40 (d : Nat) (w : World) (x0 y0 : Int) (x1 y1 : Int) :
    (Op.equalIn (d + 2) 40 (.agg #[.int .i64 x0,.int .i64 x1]) (.agg #[.int .i64 y0,.int .i64 y1])).run Try.prog w = .ok (x0 == y0 && (x1 == y1)) w := by
  refine eqA_of Try.underlying40 (by kernel_rfl) ?_
  refine eqf_cons (by rfl) (by go_simp;rfl) (by go_simp;rfl) (by go_simp) ?_
  exact eqf_last (by rfl) (by go_simp;rfl) (by go_simp;rfl) (by go_simp)
end Go.Proofs.Ytkoiffkonjpoiaa.Q
namespace Go.Proofs.Ytkoiffkonjpoiaa.Q
open Go.RowKit Go.Proofs.YtkoiffkonjpoiaaW.PrintWords Go.Proofs.YtkoiffkonjpoiaaW.PrintLast Go.Proofs.YtkoiffkonjpoiaaW.PrintMore Go.Proofs.YtkoiffkonjpoiaaX
attribute [local go_sem] max2_int min2_int max_two min_two max_three min_three max_four min_four   -- for this text's walks alone
set_option linter.unusedVariables false
set_option linter.unusedSimpArgs false

attribute [local go_sem high] eqA40
def boscagelaw02_Find.l0 : Nat → Int → List (S40) → Int → Int → Option (Int)
  | 0,_,_,_,_ => none
  | k + 1,x1,x7,x8,x9 => if x9 < x8 then (if 0 ≤ x9 then (if x9 < (x7.length : Int) then (if ((rd_T40 x7 x9).f0) = x1 then (some x9) else (boscagelaw02_Find.l0 k x1 x7 x8 (wrap64 (x9 + 1)))) else (none)) else (none)) else (some (-1))
def boscagelaw02_Find.f (k : Nat) (l0 : List (S40)) (a1 : Int) : Option (Int) := boscagelaw02_Find.l0 k a1 l0 (l0.length : Int) 0
set_option maxHeartbeats 8000000 in
set_option maxRecDepth 100000 in
theorem boscagelaw02_Find.calls (k : Nat) (A0 : Option Addr) (c0 : Nat) (l0 : List (S40)) (a1 : Int) (r : Int) (w : World) (hr0 : Kd.C k40 w A0 l0.length l0) (hc0 : l0.length ≤ c0) (h : boscagelaw02_Find.f k l0 a1 = some r) :
    Calls Try.prog 46 #[.slice A0 l0.length c0,.int .i64 a1] w fun e w' => e = .returned (.int .i64 r) ∧ Below w.heap.size w w' := by
  have hu40 := Try.underlying40
  have HR0 := Aside0.mk hr0
  have HC0 := Aside0.mk hc0
  clear hr0 hc0
  have HB := Aside0.mk (Below.refl w.heap.size w)
  have H : (boscagelaw02_Find.l0 k a1 l0 (l0.length : Int) 0) = some r := h
  clear h
  have H' := Aside0.mk H
  clear H
  go_enter Try.func46,Try.ntmps46
  go_wp2
  go_loopg [9] k (fun kq v9 w' => ∃ (x9_1 : Int),v9 = .int .i64 x9_1 ∧ Aside0 (boscagelaw02_Find.l0 kq a1 l0 (l0.length : Int) x9_1 = some r) ∧ Aside0 (kq ≤ k) ∧ Aside0 (Below w.heap.size w w'))
  case atStart => exact ⟨(0),(by first | rfl | (simp;done) | (simp [*];done)),H',⟨Nat.le_refl _⟩,⟨by repeat (first | (with_reducible first | exact HB.out | apply below_alloc | apply pw_below_drewN | apply below_drew1) | exact HB.out)⟩⟩
  case round =>
    clear H'
    try clear p2
    obtain ⟨x9_1,rfl,HA,HK1,HB⟩ := hrel
    cases gk with
    | zero => exact absurd HA.out (by simp [boscagelaw02_Find.l0])
    | succ k1 =>
      have H := HA.out
      clear HA
      simp only [boscagelaw02_Find.l0] at H
      by_cases c3 : x9_1 < (l0.length : Int)
      · rw [if_pos c3] at H
        have c3b0 : decide (x9_1 < (l0.length : Int)) = true := decide_eq_true c3
        clear c3
        by_cases c4 : 0 ≤ x9_1
        · rw [if_pos c4] at H
          have c4b0 : decide (0 ≤ x9_1) = true := decide_eq_true c4
          clear c4
          by_cases c5 : x9_1 < (l0.length : Int)
          · rw [if_pos c5] at H
            have c5b0 : decide (x9_1 < (l0.length : Int)) = true := decide_eq_true c5
            clear c5
            by_cases c6 : ((rd_T40 l0 x9_1).f0) = a1
            · rw [if_pos c6] at H
              have c6b0 : (((rd_T40 l0 x9_1).f0) == a1) = true := beq_iff_eq.mpr c6
              have c6b1 : (((rd_T40 l0 x9_1).f0) != a1) = false := bne_eq_false_iff_eq.mpr c6
              clear c6
              obtain rfl := Option.some.inj H
              have p207 : 0 ≤ (x9_1 : Int) := of_decide_eq_true (by first | (with_reducible assumption) | assumption)
              have q207 : x9_1 < (l0.length : Int) := of_decide_eq_true (by first | (with_reducible assumption) | assumption)
              obtain ⟨ad207,e207,hx207_0,hx207_1⟩ := at_T40 HR0.out x9_1 p207 q207
              cases e207
              replace hx207_0 := (HB.out.cell (World.block_lt_of_cell? w _ hx207_0)).trans hx207_0
              replace hx207_1 := (HB.out.cell (World.block_lt_of_cell? w _ hx207_1)).trans hx207_1
              replace p207 := eq_true p207
              replace q207 := eq_true q207
              go_wp2_with (first | ((with_reducible refine gate_dst (N := 6) rfl ?_);refine box_event ?hg (N := 6) ?hd (cs := #[.int .i64 0,.int .i64 0]) (t := 40) ?hr ?_;(case hd => rfl);(case hg => rfl);(case hr => first | (go_simp;done) | (go_simp;rfl));intro gb208 hg w7 hbox hb;have n0_ := Aside0.mk (below_step (by repeat (first | (with_reducible first | exact HB.out | apply below_alloc | apply pw_below_drewN | apply below_drew1) | exact HB.out)) hb);have n1_ := Aside0.mk (hbox);have n2_ := Aside0.mk ((by rw [hg];exact (below_size (by repeat (first | (with_reducible first | exact HB.out | apply below_alloc | apply pw_below_drewN | apply below_drew1) | exact HB.out))) : w.heap.size ≤ gb208));have n3_ := Aside0.mk ((by rw [hg];exact (below_size (by repeat (first | (with_reducible first | exact HB.out | apply below_alloc | apply pw_below_drewN | apply below_drew1) | exact HB.out))) : w.heap.size ≤ gb208));clear HB;have HB := n0_;have BK208 := n1_;have GW208 := n2_;have GE208 := n3_;clear n0_ n1_ n2_ n3_;clear hb hbox hg;have hcz8_0 : w7.cell? ⟨gb208,0,none⟩ = some (.int .i64 0) := (blk_cell BK208.out 0).trans rfl;have hcz8_1 : w7.cell? ⟨gb208,1,none⟩ = some (.int .i64 0) := (blk_cell BK208.out 1).trans rfl;have hfz8_0 := blk_frozen BK208.out 0;have hfz8_1 := blk_frozen BK208.out 1))
              go_ret
              exact ⟨by first | rfl | (simp [errW_none,errW_some] <;> rfl) | (simp [*,errW_none,errW_some] <;> rfl),by repeat (first | (with_reducible first | exact HB.out | apply below_alloc | apply pw_below_drewN | apply below_drew1 | refine below_set ?_ GE208.out) | exact HB.out)⟩
            · rw [if_neg c6] at H
              have c6b0 : (((rd_T40 l0 x9_1).f0) == a1) = false := beq_eq_false_iff_ne.mpr c6
              have c6b1 : (((rd_T40 l0 x9_1).f0) != a1) = true := bne_iff_ne.mpr c6
              have H' := Aside0.mk H
              clear H
              have p207 : 0 ≤ (x9_1 : Int) := of_decide_eq_true (by first | (with_reducible assumption) | assumption)
              have q207 : x9_1 < (l0.length : Int) := of_decide_eq_true (by first | (with_reducible assumption) | assumption)
              obtain ⟨ad207,e207,hx207_0,hx207_1⟩ := at_T40 HR0.out x9_1 p207 q207
              cases e207
              replace hx207_0 := (HB.out.cell (World.block_lt_of_cell? w _ hx207_0)).trans hx207_0
              replace hx207_1 := (HB.out.cell (World.block_lt_of_cell? w _ hx207_1)).trans hx207_1
              replace p207 := eq_true p207
              replace q207 := eq_true q207
              go_wp2_with (first | ((with_reducible refine gate_dst (N := 6) rfl ?_);refine box_event ?hg (N := 6) ?hd (cs := #[.int .i64 0,.int .i64 0]) (t := 40) ?hr ?_;(case hd => rfl);(case hg => rfl);(case hr => first | (go_simp;done) | (go_simp;rfl));intro gb208 hg w9 hbox hb;have n0_ := Aside0.mk (below_step (by repeat (first | (with_reducible first | exact HB.out | apply below_alloc | apply pw_below_drewN | apply below_drew1) | exact HB.out)) hb);have n1_ := Aside0.mk (hbox);have n2_ := Aside0.mk ((by rw [hg];exact (below_size (by repeat (first | (with_reducible first | exact HB.out | apply below_alloc | apply pw_below_drewN | apply below_drew1) | exact HB.out))) : w.heap.size ≤ gb208));have n3_ := Aside0.mk ((by rw [hg];exact (below_size (by repeat (first | (with_reducible first | exact HB.out | apply below_alloc | apply pw_below_drewN | apply below_drew1) | exact HB.out))) : w.heap.size ≤ gb208));clear HB;have HB := n0_;have BK208 := n1_;have GW208 := n2_;have GE208 := n3_;clear n0_ n1_ n2_ n3_;clear hb hbox hg;have hcz10_0 : w9.cell? ⟨gb208,0,none⟩ = some (.int .i64 0) := (blk_cell BK208.out 0).trans rfl;have hcz10_1 : w9.cell? ⟨gb208,1,none⟩ = some (.int .i64 0) := (blk_cell BK208.out 1).trans rfl;have hfz10_0 := blk_frozen BK208.out 0;have hfz10_1 := blk_frozen BK208.out 1))
              go_roundg k1
              case measure => have := HK1.out;omega
              case rel => exact ⟨(wrap64 (x9_1 + 1)),(by first | rfl | (simp;done) | (simp [*];done)),H',⟨by have := HK1.out;omega⟩,⟨by repeat (first | (with_reducible first | exact HB.out | apply below_alloc | apply pw_below_drewN | apply below_drew1 | refine below_set ?_ GE208.out) | exact HB.out)⟩⟩
          · rw [if_neg c5] at H
            exact absurd H (by simp)
        · rw [if_neg c4] at H
          exact absurd H (by simp)
      · rw [if_neg c3] at H
        have c3b0 : decide (x9_1 < (l0.length : Int)) = false := decide_eq_false c3
        clear c3
        obtain rfl := Option.some.inj H
        go_wp2
        go_ret
        exact ⟨by first | rfl | (simp [errW_none,errW_some] <;> rfl) | (simp [*,errW_none,errW_some] <;> rfl),by repeat (first | (with_reducible first | exact HB.out | apply below_alloc | apply pw_below_drewN | apply below_drew1) | exact HB.out)⟩

def boscagelaw02_Same.l0 : Nat → List (S40) → List (S40) → Int → Int → Option (Bool)
  | 0,_,_,_,_ => none
  | k + 1,x0,x1,x12,x13 => if x13 < x12 then (if 0 ≤ x13 then (if x13 < (x0.length : Int) then (if x13 < (x1.length : Int) then (if (!(((rd_T40 x0 x13).f0) == ((rd_T40 x1 x13).f0)) || (!(((rd_T40 x0 x13).f1) == ((rd_T40 x1 x13).f1)))) = true then (some false) else (boscagelaw02_Same.l0 k x0 x1 x12 (wrap64 (x13 + 1)))) else (none)) else (none)) else (none)) else (some true)
def boscagelaw02_Same.f (k : Nat) (l0 : List (S40)) (l1 : List (S40)) : Option (Bool) := if (l0.length : Int) = (l1.length : Int) then (boscagelaw02_Same.l0 k l0 l1 (l0.length : Int) 0) else (some false)
set_option maxHeartbeats 8000000 in
set_option maxRecDepth 100000 in
theorem boscagelaw02_Same.calls (k : Nat) (A0 : Option Addr) (c0 : Nat) (l0 : List (S40)) (A1 : Option Addr) (c1 : Nat) (l1 : List (S40)) (r : Bool) (w : World) (hr0 : Kd.C k40 w A0 l0.length l0) (hc0 : l0.length ≤ c0) (hr1 : Kd.C k40 w A1 l1.length l1) (hc1 : l1.length ≤ c1) (h : boscagelaw02_Same.f k l0 l1 = some r) :
    Calls Try.prog 48 #[.slice A0 l0.length c0,.slice A1 l1.length c1] w fun e w' => e = .returned (.bool r) ∧ Drawn0 w w' := by
  have hu40 := Try.underlying40
  have HR0 := Aside0.mk hr0
  have HC0 := Aside0.mk hc0
  clear hr0 hc0
  have HR1 := Aside0.mk hr1
  have HC1 := Aside0.mk hc1
  clear hr1 hc1
  have H : (if (l0.length : Int) = (l1.length : Int) then (boscagelaw02_Same.l0 k l0 l1 (l0.length : Int) 0) else (some false)) = some r := h
  clear h
  by_cases c3 : (l0.length : Int) = (l1.length : Int)
  · rw [if_pos c3] at H
    have c3b0 : ((l0.length : Int) == (l1.length : Int)) = true := beq_iff_eq.mpr c3
    have c3b1 : ((l0.length : Int) != (l1.length : Int)) = false := bne_eq_false_iff_eq.mpr c3
    have c3b2 : (l0.length == l1.length) = true := by first | simpa using c3 | (simp at c3 ⊢;omega)
    clear c3
    have H' := Aside0.mk H
    clear H
    go_enter Try.func48,Try.ntmps48
    go_wp2
    repeat (go_quiet (fail);try go_wp2)
    go_loopg [13] k (fun kq v13 w' => ∃ (x13_1 : Int),v13 = .int .i64 x13_1 ∧ Aside0 (boscagelaw02_Same.l0 kq l0 l1 (l0.length : Int) x13_1 = some r) ∧ Aside0 (kq ≤ k) ∧ Drawn0 w w')
    case atStart => exact ⟨(0),(by first | rfl | (simp;done) | (simp [*];done)),H',⟨Nat.le_refl _⟩,by repeat (first | exact Drawn0.refl _ | apply Drawn0.step)⟩
    case round =>
      clear H'
      try clear c1
      try clear p2
      try clear c3
      try clear c3b0
      try clear c3b1
      try clear c3b2
      obtain ⟨x13_1,rfl,HA,HK1,⟨m1,rfl⟩⟩ := hrel
      cases gk with
      | zero => exact absurd HA.out (by simp [boscagelaw02_Same.l0])
      | succ k1 =>
        have H := HA.out
        clear HA
        simp only [boscagelaw02_Same.l0] at H
        by_cases c4 : x13_1 < (l0.length : Int)
        · rw [if_pos c4] at H
          have c4b0 : decide (x13_1 < (l0.length : Int)) = true := decide_eq_true c4
          clear c4
          by_cases c5 : 0 ≤ x13_1
          · rw [if_pos c5] at H
            have c5b0 : decide (0 ≤ x13_1) = true := decide_eq_true c5
            clear c5
            by_cases c6 : x13_1 < (l0.length : Int)
            · rw [if_pos c6] at H
              have c6b0 : decide (x13_1 < (l0.length : Int)) = true := decide_eq_true c6
              clear c6
              by_cases c7 : x13_1 < (l1.length : Int)
              · rw [if_pos c7] at H
                have c7b0 : decide (x13_1 < (l1.length : Int)) = true := decide_eq_true c7
                clear c7
                by_cases c8 : (!(((rd_T40 l0 x13_1).f0) == ((rd_T40 l1 x13_1).f0)) || (!(((rd_T40 l0 x13_1).f1) == ((rd_T40 l1 x13_1).f1)))) = true
                · rw [if_pos c8] at H
                  have c8b0 : (!(((rd_T40 l0 x13_1).f0) == ((rd_T40 l1 x13_1).f0)) || (!(((rd_T40 l0 x13_1).f1) == ((rd_T40 l1 x13_1).f1)))) = true := c8
                  clear c8
                  obtain rfl := Option.some.inj H
                  have p217 : 0 ≤ (x13_1 : Int) := of_decide_eq_true (by first | (with_reducible assumption) | assumption)
                  have q217 : x13_1 < (l0.length : Int) := of_decide_eq_true (by first | (with_reducible assumption) | assumption)
                  obtain ⟨ad217,e217,hx217_0,hx217_1⟩ := at_T40 HR0.out x13_1 p217 q217
                  cases e217
                  replace p217 := eq_true p217
                  replace q217 := eq_true q217
                  have p218 : 0 ≤ (x13_1 : Int) := of_decide_eq_true (by first | (with_reducible assumption) | assumption)
                  have q218 : x13_1 < (l1.length : Int) := of_decide_eq_true (by first | (with_reducible assumption) | assumption)
                  obtain ⟨ad218,e218,hx218_0,hx218_1⟩ := at_T40 HR1.out x13_1 p218 q218
                  cases e218
                  replace p218 := eq_true p218
                  replace q218 := eq_true q218
                  go_wp2
                  repeat (go_quiet (fail);try go_wp2)
                  go_ret
                  exact ⟨by first | rfl | (simp;done) | (simp [*];done),by repeat (first | exact Drawn0.refl _ | apply Drawn0.step)⟩
                · rw [if_neg c8] at H
                  have c8b0 : (!(((rd_T40 l0 x13_1).f0) == ((rd_T40 l1 x13_1).f0)) || (!(((rd_T40 l0 x13_1).f1) == ((rd_T40 l1 x13_1).f1)))) = false := by simpa using c8
                  clear c8
                  have H' := Aside0.mk H
                  clear H
                  have p217 : 0 ≤ (x13_1 : Int) := of_decide_eq_true (by first | (with_reducible assumption) | assumption)
                  have q217 : x13_1 < (l0.length : Int) := of_decide_eq_true (by first | (with_reducible assumption) | assumption)
                  obtain ⟨ad217,e217,hx217_0,hx217_1⟩ := at_T40 HR0.out x13_1 p217 q217
                  cases e217
                  replace p217 := eq_true p217
                  replace q217 := eq_true q217
                  have p218 : 0 ≤ (x13_1 : Int) := of_decide_eq_true (by first | (with_reducible assumption) | assumption)
                  have q218 : x13_1 < (l1.length : Int) := of_decide_eq_true (by first | (with_reducible assumption) | assumption)
                  obtain ⟨ad218,e218,hx218_0,hx218_1⟩ := at_T40 HR1.out x13_1 p218 q218
                  cases e218
                  replace p218 := eq_true p218
                  replace q218 := eq_true q218
                  go_wp2
                  repeat (go_quiet (fail);try go_wp2)
                  go_roundg k1
                  case measure => have := HK1.out;omega
                  case rel => exact ⟨(wrap64 (x13_1 + 1)),(by first | rfl | (simp;done) | (simp [*];done)),H',⟨by have := HK1.out;omega⟩,by repeat (first | exact Drawn0.refl _ | apply Drawn0.step)⟩
              · rw [if_neg c7] at H
                exact absurd H (by simp)
            · rw [if_neg c6] at H
              exact absurd H (by simp)
          · rw [if_neg c5] at H
            exact absurd H (by simp)
        · rw [if_neg c4] at H
          have c4b0 : decide (x13_1 < (l0.length : Int)) = false := decide_eq_false c4
          clear c4
          obtain rfl := Option.some.inj H
          go_wp2
          repeat (go_quiet (fail);try go_wp2)
          go_ret
          exact ⟨by first | rfl | (simp;done) | (simp [*];done),by repeat (first | exact Drawn0.refl _ | apply Drawn0.step)⟩
  · rw [if_neg c3] at H
    have c3b0 : ((l0.length : Int) == (l1.length : Int)) = false := beq_eq_false_iff_ne.mpr c3
    have c3b1 : ((l0.length : Int) != (l1.length : Int)) = true := bne_iff_ne.mpr c3
    have c3b2 : (l0.length == l1.length) = false := by first | simpa using c3 | (simp at c3 ⊢;omega)
    obtain rfl := Option.some.inj H
    go_enter Try.func48,Try.ntmps48
    go_wp2
    repeat (go_quiet (fail);try go_wp2)
    go_ret
    exact ⟨by first | rfl | (simp;done) | (simp [*];done),by repeat (first | exact Drawn0.refl _ | apply Drawn0.step)⟩

def leaf_Leaf_Between.l0 : Nat → Int → Int → List (S40) → List (S40) → Int → Int → Option ((List (S40)))
  | 0,_,_,_,_,_,_ => none
  | k + 1,x1,x2,x7,x10,x11,x12 => if x12 < x11 then (if 0 ≤ x12 then (if x12 < (x10.length : Int) then (if ((rd_T40 x10 x12).f0) ≥ x1 then (if ((rd_T40 x10 x12).f0) ≤ x2 then (if x7.length < 8796093022208 then (leaf_Leaf_Between.l0 k x1 x2 (x7 ++ [(⟨(rd_T40 x10 x12).f0,(rd_T40 x10 x12).f1⟩ : S40)]) x10 x11 (wrap64 (x12 + 1))) else (none)) else (leaf_Leaf_Between.l0 k x1 x2 x7 x10 x11 (wrap64 (x12 + 1)))) else (leaf_Leaf_Between.l0 k x1 x2 x7 x10 x11 (wrap64 (x12 + 1)))) else (none)) else (none)) else (some x7)
def leaf_Leaf_Between.f (k : Nat) (l0 : List (S40)) (a1 : Int) (a2 : Int) : Option ((List (S40))) := leaf_Leaf_Between.l0 k a1 a2 ([] : List (S40)) l0 (l0.length : Int) 0
set_option maxHeartbeats 8000000 in
set_option maxRecDepth 100000 in
theorem leaf_Leaf_Between.calls (k : Nat) (A0 : Option Addr) (c0 : Nat) (l0 : List (S40)) (a1 : Int) (a2 : Int) (r : List (S40)) (w : World) (hr0 : Kd.C k40 w A0 l0.length l0) (hc0 : l0.length ≤ c0) (h : leaf_Leaf_Between.f k l0 a1 a2 = some r) :
    Calls Try.prog 64 #[.slice A0 l0.length c0,.int .i64 a1,.int .i64 a2] w fun e w' => ∃ v0_ : Value,e = .returned (v0_) ∧ Kd.R k40 40 w' w.heap.size (fun _ => True) v0_ r ∧ Below w.heap.size w w' := by
  have hu40 := Try.underlying40
  have HR0 := Aside0.mk hr0
  have HC0 := Aside0.mk hc0
  clear hr0 hc0
  have HB := Aside0.mk (Below.refl w.heap.size w)
  have H : (leaf_Leaf_Between.l0 k a1 a2 ([] : List (S40)) l0 (l0.length : Int) 0) = some r := h
  clear h
  have H' := Aside0.mk H
  clear H
  go_enter Try.func64,Try.ntmps64
  go_wp2
  go_loopg [7,12] k (fun kq v7 v12 w' => ∃ (x7_1 : List (S40)) (x12_1 : Int),v12 = .int .i64 x12_1 ∧ Aside0 (leaf_Leaf_Between.l0 kq a1 a2 x7_1 l0 (l0.length : Int) x12_1 = some r) ∧ Aside0 (kq ≤ k) ∧ Aside0 (Kd.R k40 40 w' w.heap.size (fun _ => True) v7 x7_1) ∧ Aside0 (Below w.heap.size w w'))
  case atStart => exact ⟨(([] : List (S40))),(0),(by first | rfl | (simp;done) | (simp [*];done)),H',⟨Nat.le_refl _⟩,⟨by first | exact Kd.R_nil _ _ _ _ _ | exact Kd.N_nil _ _ _ _ _ | exact Kd.V_nil _ _ _ _ _ | exact Kd.Q_nil _ _ _ _ _ | exact Kd.S_nil _ _ _ _ _⟩,⟨by repeat (first | (with_reducible first | exact HB.out | apply below_alloc | apply pw_below_drewN | apply below_drew1) | exact HB.out)⟩⟩
  case round =>
    clear H'
    try clear p2
    obtain ⟨x7_1,x12_1,rfl,HA,HK1,HO_7,HB⟩ := hrel
    cases gk with
    | zero => exact absurd HA.out (by simp [leaf_Leaf_Between.l0])
    | succ k1 =>
      have H := HA.out
      clear HA
      simp only [leaf_Leaf_Between.l0] at H
      by_cases c4 : x12_1 < (l0.length : Int)
      · rw [if_pos c4] at H
        have c4b0 : decide (x12_1 < (l0.length : Int)) = true := decide_eq_true c4
        clear c4
        by_cases c5 : 0 ≤ x12_1
        · rw [if_pos c5] at H
          have c5b0 : decide (0 ≤ x12_1) = true := decide_eq_true c5
          clear c5
          by_cases c6 : x12_1 < (l0.length : Int)
          · rw [if_pos c6] at H
            have c6b0 : decide (x12_1 < (l0.length : Int)) = true := decide_eq_true c6
            clear c6
            by_cases c7 : ((rd_T40 l0 x12_1).f0) ≥ a1
            · rw [if_pos c7] at H
              have c7b0 : decide (a1 ≤ ((rd_T40 l0 x12_1).f0)) = true := decide_eq_true c7
              clear c7
              by_cases c8 : ((rd_T40 l0 x12_1).f0) ≤ a2
              · rw [if_pos c8] at H
                have c8b0 : decide (((rd_T40 l0 x12_1).f0) ≤ a2) = true := decide_eq_true c8
                clear c8
                by_cases c9 : x7_1.length < 8796093022208
                · rw [if_pos c9] at H
                  have LMc9 := Aside0.mk c9
                  clear c9
                  obtain ⟨y593,hy593⟩ : ∃ y_ : List (S40),y_ = (x7_1 ++ [(⟨(rd_T40 l0 x12_1).f0,(rd_T40 l0 x12_1).f1⟩ : S40)]) := ⟨_,rfl⟩
                  replace H : (leaf_Leaf_Between.l0 k1 a1 a2 y593 l0 (l0.length : Int) (wrap64 (x12_1 + 1))) = some r := by first | (rw [hy593];with_reducible exact H) | (have H2_ := (Option.bind_some _ _).symm.trans H;rw [hy593];with_reducible exact H2_) | (have H2_ := (Option.bind_some _ _).symm.trans H;with_reducible exact H2_) | with_reducible exact H | (rw [hy593];exact H) | exact H
                  have Ny593 := Aside0.mk hy593
                  clear hy593
                  have H' := Aside0.mk H
                  clear H
                  have p591 : 0 ≤ (x12_1 : Int) := of_decide_eq_true (by first | (with_reducible assumption) | assumption)
                  have q591 : x12_1 < (l0.length : Int) := of_decide_eq_true (by first | (with_reducible assumption) | assumption)
                  obtain ⟨ad591,e591,hx591_0,hx591_1⟩ := at_T40 HR0.out x12_1 p591 q591
                  cases e591
                  replace hx591_0 := (HB.out.cell (World.block_lt_of_cell? w _ hx591_0)).trans hx591_0
                  replace hx591_1 := (HB.out.cell (World.block_lt_of_cell? w _ hx591_1)).trans hx591_1
                  replace p591 := eq_true p591
                  replace q591 := eq_true q591
                  go_wp2_with (first | ((with_reducible refine gate_dst (N := 9) rfl ?_);refine box_event ?hg (N := 9) ?hd (cs := #[.int .i64 0,.int .i64 0]) (t := 40) ?hr ?_;(case hd => rfl);(case hg => rfl);(case hr => first | (go_simp;done) | (go_simp;rfl));intro gb592 hg w10 hbox hb;have n0_ := Aside0.mk (Kd.R_below (Kd.R_elderB (by (with_reducible repeat (first | apply Kd.R_alloc | apply Kd.R_drewN | apply Kd.R_drew));exact HO_7.out) gb592 (Nat.le_of_eq hg.symm)) hb);have n1_ := Aside0.mk (below_step (by repeat (first | (with_reducible first | exact HB.out | apply below_alloc | apply pw_below_drewN | apply below_drew1) | exact HB.out)) hb);have n2_ := Aside0.mk (hbox);have n3_ := Aside0.mk ((by rw [hg];exact (below_size (by repeat (first | (with_reducible first | exact HB.out | apply below_alloc | apply pw_below_drewN | apply below_drew1) | exact HB.out))) : w.heap.size ≤ gb592));have n4_ := Aside0.mk ((by rw [hg];exact (below_size (by repeat (first | (with_reducible first | exact HB.out | apply below_alloc | apply pw_below_drewN | apply below_drew1) | exact HB.out))) : w.heap.size ≤ gb592));clear HO_7;clear HB;have HO_7 := n0_;have HB := n1_;have BK592 := n2_;have GW592 := n3_;have GE592 := n4_;clear n0_ n1_ n2_ n3_ n4_;clear hb hbox hg;have hcz11_0 : w10.cell? ⟨gb592,0,none⟩ = some (.int .i64 0) := (blk_cell BK592.out 0).trans rfl;have hcz11_1 : w10.cell? ⟨gb592,1,none⟩ = some (.int .i64 0) := (blk_cell BK592.out 1).trans rfl;have hfz11_0 := blk_frozen BK592.out 0;have hfz11_1 := blk_frozen BK592.out 1) | ((with_reducible refine gate_builtin (b := .append) (xs := #[.tmp 26,.tmp 28]) rfl ?_);at_builtin;refine Kd.R_append k40 (w0 := w) w.heap.size rfl (.tmp 26) (.tmp 28) 34 40 (.agg #[(.int .i64 0),(.int .i64 0)]) 16 rfl Try.underlying34 info40 rfl (by decide) (by omega) u7 x7_1 (⟨(rd_T40 l0 x12_1).f0,(rd_T40 l0 x12_1).f1⟩ : S40) [.int .i64 ((rd_T40 l0 x12_1).f0),.int .i64 ((rd_T40 l0 x12_1).f1)] (fun k_ => k_ ≠ gb592) (fun _ => False) rfl (by first | (go_simp;done) | (go_simp;rfl)) ?aP (fun _ hk => hk.elim) ?aF ?aO ?aB ?aS ?aL ?_;(case aP => exact k40_mkM _ _ _ (⟨(rd_T40 l0 x12_1).f0,(rd_T40 l0 x12_1).f1⟩ : S40));(case aB => exact (by repeat (first | (with_reducible first | exact HB.out | apply below_alloc | apply pw_below_drewN | apply below_drew1 | refine below_set ?_ GE592.out) | exact HB.out)));(case aF => exact (fun k_ hk => Kd.freshB (g := gb592) (o := .cells #[.int .i64 ((rd_T40 l0 x12_1).f0),.int .i64 ((rd_T40 l0 x12_1).f1)] 40 (0,0)) (by (with_reducible repeat (first | refine blk_drewN ?_ _ | refine blk_drew ?_ | refine blk_alloc ?_ _));refine blk_put (cs := #[.int .i64 ((rd_T40 l0 x12_1).f0),.int .i64 0]) ?_ 1 _ rfl;(with_reducible repeat (first | refine blk_drewN ?_ _ | refine blk_drew ?_ | refine blk_alloc ?_ _));refine blk_put (cs := #[.int .i64 0,.int .i64 0]) ?_ 0 _ rfl;(with_reducible repeat (first | refine blk_drewN ?_ _ | refine blk_drew ?_ | refine blk_alloc ?_ _));exact BK592.out) k_ hk));(case aO => exact (by (with_reducible repeat (first | apply Kd.R_alloc | apply Kd.R_drewN | apply Kd.R_drew));exact Kd.R_mono (Kd.R_far (p := ⟨gb592,1,none⟩) (Kd.R_far (p := ⟨gb592,0,none⟩) (Kd.R_mono HO_7.out (fun k_ hk => (⟨hk,hk.2⟩ : _ ∧ k_ ≠ gb592))) (fun _ hk => hk.2) (.int .i64 ((rd_T40 l0 x12_1).f0))) (fun _ hk => hk.2) (.int .i64 ((rd_T40 l0 x12_1).f1))) (fun _ hk => hk.1.2)));(case aS => exact (below_size (by repeat (first | (with_reducible first | exact HB.out | apply below_alloc | apply pw_below_drewN | apply below_drew1 | refine below_set ?_ GE592.out) | exact HB.out))));(case aL => have := LMc9.out;omega);intro v594 w12 ho hb hg hat;rw [← Ny593.out] at ho;have n0_ := Aside0.mk (blk_grown (g := gb592) (o := .cells #[.int .i64 ((rd_T40 l0 x12_1).f0),.int .i64 ((rd_T40 l0 x12_1).f1)] 40 (0,0)) (by (with_reducible repeat (first | refine blk_drewN ?_ _ | refine blk_drew ?_ | refine blk_alloc ?_ _));refine blk_put (cs := #[.int .i64 ((rd_T40 l0 x12_1).f0),.int .i64 0]) ?_ 1 _ rfl;(with_reducible repeat (first | refine blk_drewN ?_ _ | refine blk_drew ?_ | refine blk_alloc ?_ _));refine blk_put (cs := #[.int .i64 0,.int .i64 0]) ?_ 0 _ rfl;(with_reducible repeat (first | refine blk_drewN ?_ _ | refine blk_drew ?_ | refine blk_alloc ?_ _));exact BK592.out) hg (Kd.R_away HO_7.out (fun _ hk => hk.2)));have n1_ := Aside0.mk (hb);have n2_ := Aside0.mk (ho);clear BK592;clear HB;clear HO_7;have BK592 := n0_;have HB := n1_;have HO595 := n2_;clear n0_ n1_ n2_;clear ho hb hg hat))
                  go_roundg k1
                  case measure => have := HK1.out;omega
                  case rel => exact ⟨(y593),(wrap64 (x12_1 + 1)),(by first | rfl | (simp;done) | (simp [*];done)),H',⟨by have := HK1.out;omega⟩,⟨by (with_reducible repeat (first | apply Kd.R_alloc | apply Kd.R_drewN | apply Kd.R_drew));exact Kd.R_mono HO595.out (fun _ hk => trivial)⟩,⟨by repeat (first | (with_reducible first | exact HB.out | apply below_alloc | apply pw_below_drewN | apply below_drew1 | refine below_set ?_ GE592.out) | exact HB.out)⟩⟩
                · rw [if_neg c9] at H
                  exact absurd H (by simp)
              · rw [if_neg c8] at H
                have c8b0 : decide (((rd_T40 l0 x12_1).f0) ≤ a2) = false := decide_eq_false c8
                clear c8
                have H' := Aside0.mk H
                clear H
                have p591 : 0 ≤ (x12_1 : Int) := of_decide_eq_true (by first | (with_reducible assumption) | assumption)
                have q591 : x12_1 < (l0.length : Int) := of_decide_eq_true (by first | (with_reducible assumption) | assumption)
                obtain ⟨ad591,e591,hx591_0,hx591_1⟩ := at_T40 HR0.out x12_1 p591 q591
                cases e591
                replace hx591_0 := (HB.out.cell (World.block_lt_of_cell? w _ hx591_0)).trans hx591_0
                replace hx591_1 := (HB.out.cell (World.block_lt_of_cell? w _ hx591_1)).trans hx591_1
                replace p591 := eq_true p591
                replace q591 := eq_true q591
                go_wp2_with (first | ((with_reducible refine gate_dst (N := 9) rfl ?_);refine box_event ?hg (N := 9) ?hd (cs := #[.int .i64 0,.int .i64 0]) (t := 40) ?hr ?_;(case hd => rfl);(case hg => rfl);(case hr => first | (go_simp;done) | (go_simp;rfl));intro gb592 hg w13 hbox hb;have n0_ := Aside0.mk (Kd.R_below (Kd.R_elderB (by (with_reducible repeat (first | apply Kd.R_alloc | apply Kd.R_drewN | apply Kd.R_drew));exact HO_7.out) gb592 (Nat.le_of_eq hg.symm)) hb);have n1_ := Aside0.mk (below_step (by repeat (first | (with_reducible first | exact HB.out | apply below_alloc | apply pw_below_drewN | apply below_drew1) | exact HB.out)) hb);have n2_ := Aside0.mk (hbox);have n3_ := Aside0.mk ((by rw [hg];exact (below_size (by repeat (first | (with_reducible first | exact HB.out | apply below_alloc | apply pw_below_drewN | apply below_drew1) | exact HB.out))) : w.heap.size ≤ gb592));have n4_ := Aside0.mk ((by rw [hg];exact (below_size (by repeat (first | (with_reducible first | exact HB.out | apply below_alloc | apply pw_below_drewN | apply below_drew1) | exact HB.out))) : w.heap.size ≤ gb592));clear HO_7;clear HB;have HO_7 := n0_;have HB := n1_;have BK592 := n2_;have GW592 := n3_;have GE592 := n4_;clear n0_ n1_ n2_ n3_ n4_;clear hb hbox hg;have hcz14_0 : w13.cell? ⟨gb592,0,none⟩ = some (.int .i64 0) := (blk_cell BK592.out 0).trans rfl;have hcz14_1 : w13.cell? ⟨gb592,1,none⟩ = some (.int .i64 0) := (blk_cell BK592.out 1).trans rfl;have hfz14_0 := blk_frozen BK592.out 0;have hfz14_1 := blk_frozen BK592.out 1))
                go_roundg k1
                case measure => have := HK1.out;omega
                case rel => exact ⟨(x7_1),(wrap64 (x12_1 + 1)),(by first | rfl | (simp;done) | (simp [*];done)),H',⟨by have := HK1.out;omega⟩,⟨by (with_reducible repeat (first | apply Kd.R_alloc | apply Kd.R_drewN | apply Kd.R_drew));exact Kd.R_mono (Kd.R_far (p := ⟨gb592,1,none⟩) (Kd.R_far (p := ⟨gb592,0,none⟩) (Kd.R_mono HO_7.out (fun k_ hk => (⟨hk,hk.2⟩ : _ ∧ k_ ≠ gb592))) (fun _ hk => hk.2) (.int .i64 ((rd_T40 l0 x12_1).f0))) (fun _ hk => hk.2) (.int .i64 ((rd_T40 l0 x12_1).f1))) (fun _ hk => trivial)⟩,⟨by repeat (first | (with_reducible first | exact HB.out | apply below_alloc | apply pw_below_drewN | apply below_drew1 | refine below_set ?_ GE592.out) | exact HB.out)⟩⟩
            · rw [if_neg c7] at H
              have c7b0 : decide (a1 ≤ ((rd_T40 l0 x12_1).f0)) = false := decide_eq_false c7
              clear c7
              have H' := Aside0.mk H
              clear H
              have p591 : 0 ≤ (x12_1 : Int) := of_decide_eq_true (by first | (with_reducible assumption) | assumption)
              have q591 : x12_1 < (l0.length : Int) := of_decide_eq_true (by first | (with_reducible assumption) | assumption)
              obtain ⟨ad591,e591,hx591_0,hx591_1⟩ := at_T40 HR0.out x12_1 p591 q591
              cases e591
              replace hx591_0 := (HB.out.cell (World.block_lt_of_cell? w _ hx591_0)).trans hx591_0
              replace hx591_1 := (HB.out.cell (World.block_lt_of_cell? w _ hx591_1)).trans hx591_1
              replace p591 := eq_true p591
              replace q591 := eq_true q591
              go_wp2_with (first | ((with_reducible refine gate_dst (N := 9) rfl ?_);refine box_event ?hg (N := 9) ?hd (cs := #[.int .i64 0,.int .i64 0]) (t := 40) ?hr ?_;(case hd => rfl);(case hg => rfl);(case hr => first | (go_simp;done) | (go_simp;rfl));intro gb592 hg w15 hbox hb;have n0_ := Aside0.mk (Kd.R_below (Kd.R_elderB (by (with_reducible repeat (first | apply Kd.R_alloc | apply Kd.R_drewN | apply Kd.R_drew));exact HO_7.out) gb592 (Nat.le_of_eq hg.symm)) hb);have n1_ := Aside0.mk (below_step (by repeat (first | (with_reducible first | exact HB.out | apply below_alloc | apply pw_below_drewN | apply below_drew1) | exact HB.out)) hb);have n2_ := Aside0.mk (hbox);have n3_ := Aside0.mk ((by rw [hg];exact (below_size (by repeat (first | (with_reducible first | exact HB.out | apply below_alloc | apply pw_below_drewN | apply below_drew1) | exact HB.out))) : w.heap.size ≤ gb592));have n4_ := Aside0.mk ((by rw [hg];exact (below_size (by repeat (first | (with_reducible first | exact HB.out | apply below_alloc | apply pw_below_drewN | apply below_drew1) | exact HB.out))) : w.heap.size ≤ gb592));clear HO_7;clear HB;have HO_7 := n0_;have HB := n1_;have BK592 := n2_;have GW592 := n3_;have GE592 := n4_;clear n0_ n1_ n2_ n3_ n4_;clear hb hbox hg;have hcz16_0 : w15.cell? ⟨gb592,0,none⟩ = some (.int .i64 0) := (blk_cell BK592.out 0).trans rfl;have hcz16_1 : w15.cell? ⟨gb592,1,none⟩ = some (.int .i64 0) := (blk_cell BK592.out 1).trans rfl;have hfz16_0 := blk_frozen BK592.out 0;have hfz16_1 := blk_frozen BK592.out 1))
              go_roundg k1
              case measure => have := HK1.out;omega
              case rel => exact ⟨(x7_1),(wrap64 (x12_1 + 1)),(by first | rfl | (simp;done) | (simp [*];done)),H',⟨by have := HK1.out;omega⟩,⟨by (with_reducible repeat (first | apply Kd.R_alloc | apply Kd.R_drewN | apply Kd.R_drew));exact Kd.R_mono (Kd.R_far (p := ⟨gb592,1,none⟩) (Kd.R_far (p := ⟨gb592,0,none⟩) (Kd.R_mono HO_7.out (fun k_ hk => (⟨hk,hk.2⟩ : _ ∧ k_ ≠ gb592))) (fun _ hk => hk.2) (.int .i64 ((rd_T40 l0 x12_1).f0))) (fun _ hk => hk.2) (.int .i64 ((rd_T40 l0 x12_1).f1))) (fun _ hk => trivial)⟩,⟨by repeat (first | (with_reducible first | exact HB.out | apply below_alloc | apply pw_below_drewN | apply below_drew1 | refine below_set ?_ GE592.out) | exact HB.out)⟩⟩
          · rw [if_neg c6] at H
            exact absurd H (by simp)
        · rw [if_neg c5] at H
          exact absurd H (by simp)
      · rw [if_neg c4] at H
        have c4b0 : decide (x12_1 < (l0.length : Int)) = false := decide_eq_false c4
        clear c4
        obtain rfl := Option.some.inj H
        go_wp2
        go_ret
        exact ⟨_,by first | rfl | (simp [errW_none,errW_some] <;> rfl) | (simp [*,errW_none,errW_some] <;> rfl),by (with_reducible repeat (first | apply Kd.R_alloc | apply Kd.R_drewN | apply Kd.R_drew));exact HO_7.out,by repeat (first | (with_reducible first | exact HB.out | apply below_alloc | apply pw_below_drewN | apply below_drew1) | exact HB.out)⟩

end Go.Proofs.Ytkoiffkonjpoiaa.Q
namespace Go.Proofs.Ytkoiffkonjpoiaa.Q
open Go.RowKit Go.Proofs.YtkoiffkonjpoiaaW.PrintWords Go.Proofs.YtkoiffkonjpoiaaW.PrintLast Go.Proofs.YtkoiffkonjpoiaaW.PrintMore Go.Proofs.YtkoiffkonjpoiaaX
attribute [local go_sem] max2_int min2_int max_two min_two max_three min_three max_four min_four   -- for this text's walks alone
set_option linter.unusedVariables false
set_option linter.unusedSimpArgs false

def boscagelaw02_Between.l0 : Nat → Int → Int → List (S40) → List (S40) → Int → Int → Option ((List (S40)))
  | 0,_,_,_,_,_,_ => none
  | k + 1,x1,x2,x7,x10,x11,x12 => if x12 < x11 then (if 0 ≤ x12 then (if x12 < (x10.length : Int) then (if x1 ≤ ((rd_T40 x10 x12).f0) then (if ((rd_T40 x10 x12).f0) ≤ x2 then (if x7.length < 8796093022208 then (boscagelaw02_Between.l0 k x1 x2 (x7 ++ [(⟨(rd_T40 x10 x12).f0,(rd_T40 x10 x12).f1⟩ : S40)]) x10 x11 (wrap64 (x12 + 1))) else (none)) else (boscagelaw02_Between.l0 k x1 x2 x7 x10 x11 (wrap64 (x12 + 1)))) else (boscagelaw02_Between.l0 k x1 x2 x7 x10 x11 (wrap64 (x12 + 1)))) else (none)) else (none)) else (some x7)
def boscagelaw02_Between.f (k : Nat) (l0 : List (S40)) (a1 : Int) (a2 : Int) : Option ((List (S40))) := boscagelaw02_Between.l0 k a1 a2 ([] : List (S40)) l0 (l0.length : Int) 0
set_option maxHeartbeats 8000000 in
set_option maxRecDepth 100000 in
theorem boscagelaw02_Between.calls (k : Nat) (A0 : Option Addr) (c0 : Nat) (l0 : List (S40)) (a1 : Int) (a2 : Int) (r : List (S40)) (w : World) (hr0 : Kd.C k40 w A0 l0.length l0) (hc0 : l0.length ≤ c0) (h : boscagelaw02_Between.f k l0 a1 a2 = some r) :
    Calls Try.prog 65 #[.slice A0 l0.length c0,.int .i64 a1,.int .i64 a2] w fun e w' => ∃ v0_ : Value,e = .returned (v0_) ∧ Kd.R k40 40 w' w.heap.size (fun _ => True) v0_ r ∧ Below w.heap.size w w' := by
  have hu40 := Try.underlying40
  have HR0 := Aside0.mk hr0
  have HC0 := Aside0.mk hc0
  clear hr0 hc0
  have HB := Aside0.mk (Below.refl w.heap.size w)
  have H : (boscagelaw02_Between.l0 k a1 a2 ([] : List (S40)) l0 (l0.length : Int) 0) = some r := h
  clear h
  have H' := Aside0.mk H
  clear H
  go_enter Try.func65,Try.ntmps65
  go_wp2
  go_loopg [7,12] k (fun kq v7 v12 w' => ∃ (x7_1 : List (S40)) (x12_1 : Int),v12 = .int .i64 x12_1 ∧ Aside0 (boscagelaw02_Between.l0 kq a1 a2 x7_1 l0 (l0.length : Int) x12_1 = some r) ∧ Aside0 (kq ≤ k) ∧ Aside0 (Kd.R k40 40 w' w.heap.size (fun _ => True) v7 x7_1) ∧ Aside0 (Below w.heap.size w w'))
  case atStart => exact ⟨(([] : List (S40))),(0),(by first | rfl | (simp;done) | (simp [*];done)),H',⟨Nat.le_refl _⟩,⟨by first | exact Kd.R_nil _ _ _ _ _ | exact Kd.N_nil _ _ _ _ _ | exact Kd.V_nil _ _ _ _ _ | exact Kd.Q_nil _ _ _ _ _ | exact Kd.S_nil _ _ _ _ _⟩,⟨by repeat (first | (with_reducible first | exact HB.out | apply below_alloc | apply pw_below_drewN | apply below_drew1) | exact HB.out)⟩⟩
  case round =>
    clear H'
    try clear p2
    obtain ⟨x7_1,x12_1,rfl,HA,HK1,HO_7,HB⟩ := hrel
    cases gk with
    | zero => exact absurd HA.out (by simp [boscagelaw02_Between.l0])
    | succ k1 =>
      have H := HA.out
      clear HA
      simp only [boscagelaw02_Between.l0] at H
      by_cases c4 : x12_1 < (l0.length : Int)
      · rw [if_pos c4] at H
        have c4b0 : decide (x12_1 < (l0.length : Int)) = true := decide_eq_true c4
        clear c4
        by_cases c5 : 0 ≤ x12_1
        · rw [if_pos c5] at H
          have c5b0 : decide (0 ≤ x12_1) = true := decide_eq_true c5
          clear c5
          by_cases c6 : x12_1 < (l0.length : Int)
          · rw [if_pos c6] at H
            have c6b0 : decide (x12_1 < (l0.length : Int)) = true := decide_eq_true c6
            clear c6
            by_cases c7 : a1 ≤ ((rd_T40 l0 x12_1).f0)
            · rw [if_pos c7] at H
              have c7b0 : decide (a1 ≤ ((rd_T40 l0 x12_1).f0)) = true := decide_eq_true c7
              clear c7
              by_cases c8 : ((rd_T40 l0 x12_1).f0) ≤ a2
              · rw [if_pos c8] at H
                have c8b0 : decide (((rd_T40 l0 x12_1).f0) ≤ a2) = true := decide_eq_true c8
                clear c8
                by_cases c9 : x7_1.length < 8796093022208
                · rw [if_pos c9] at H
                  have LMc9 := Aside0.mk c9
                  clear c9
                  obtain ⟨y598,hy598⟩ : ∃ y_ : List (S40),y_ = (x7_1 ++ [(⟨(rd_T40 l0 x12_1).f0,(rd_T40 l0 x12_1).f1⟩ : S40)]) := ⟨_,rfl⟩
                  replace H : (boscagelaw02_Between.l0 k1 a1 a2 y598 l0 (l0.length : Int) (wrap64 (x12_1 + 1))) = some r := by first | (rw [hy598];with_reducible exact H) | (have H2_ := (Option.bind_some _ _).symm.trans H;rw [hy598];with_reducible exact H2_) | (have H2_ := (Option.bind_some _ _).symm.trans H;with_reducible exact H2_) | with_reducible exact H | (rw [hy598];exact H) | exact H
                  have Ny598 := Aside0.mk hy598
                  clear hy598
                  have H' := Aside0.mk H
                  clear H
                  have p596 : 0 ≤ (x12_1 : Int) := of_decide_eq_true (by first | (with_reducible assumption) | assumption)
                  have q596 : x12_1 < (l0.length : Int) := of_decide_eq_true (by first | (with_reducible assumption) | assumption)
                  obtain ⟨ad596,e596,hx596_0,hx596_1⟩ := at_T40 HR0.out x12_1 p596 q596
                  cases e596
                  replace hx596_0 := (HB.out.cell (World.block_lt_of_cell? w _ hx596_0)).trans hx596_0
                  replace hx596_1 := (HB.out.cell (World.block_lt_of_cell? w _ hx596_1)).trans hx596_1
                  replace p596 := eq_true p596
                  replace q596 := eq_true q596
                  go_wp2_with (first | ((with_reducible refine gate_dst (N := 9) rfl ?_);refine box_event ?hg (N := 9) ?hd (cs := #[.int .i64 0,.int .i64 0]) (t := 40) ?hr ?_;(case hd => rfl);(case hg => rfl);(case hr => first | (go_simp;done) | (go_simp;rfl));intro gb597 hg w10 hbox hb;have n0_ := Aside0.mk (Kd.R_below (Kd.R_elderB (by (with_reducible repeat (first | apply Kd.R_alloc | apply Kd.R_drewN | apply Kd.R_drew));exact HO_7.out) gb597 (Nat.le_of_eq hg.symm)) hb);have n1_ := Aside0.mk (below_step (by repeat (first | (with_reducible first | exact HB.out | apply below_alloc | apply pw_below_drewN | apply below_drew1) | exact HB.out)) hb);have n2_ := Aside0.mk (hbox);have n3_ := Aside0.mk ((by rw [hg];exact (below_size (by repeat (first | (with_reducible first | exact HB.out | apply below_alloc | apply pw_below_drewN | apply below_drew1) | exact HB.out))) : w.heap.size ≤ gb597));have n4_ := Aside0.mk ((by rw [hg];exact (below_size (by repeat (first | (with_reducible first | exact HB.out | apply below_alloc | apply pw_below_drewN | apply below_drew1) | exact HB.out))) : w.heap.size ≤ gb597));clear HO_7;clear HB;have HO_7 := n0_;have HB := n1_;have BK597 := n2_;have GW597 := n3_;have GE597 := n4_;clear n0_ n1_ n2_ n3_ n4_;clear hb hbox hg;have hcz11_0 : w10.cell? ⟨gb597,0,none⟩ = some (.int .i64 0) := (blk_cell BK597.out 0).trans rfl;have hcz11_1 : w10.cell? ⟨gb597,1,none⟩ = some (.int .i64 0) := (blk_cell BK597.out 1).trans rfl;have hfz11_0 := blk_frozen BK597.out 0;have hfz11_1 := blk_frozen BK597.out 1) | ((with_reducible refine gate_builtin (b := .append) (xs := #[.tmp 26,.tmp 28]) rfl ?_);at_builtin;refine Kd.R_append k40 (w0 := w) w.heap.size rfl (.tmp 26) (.tmp 28) 34 40 (.agg #[(.int .i64 0),(.int .i64 0)]) 16 rfl Try.underlying34 info40 rfl (by decide) (by omega) u7 x7_1 (⟨(rd_T40 l0 x12_1).f0,(rd_T40 l0 x12_1).f1⟩ : S40) [.int .i64 ((rd_T40 l0 x12_1).f0),.int .i64 ((rd_T40 l0 x12_1).f1)] (fun k_ => k_ ≠ gb597) (fun _ => False) rfl (by first | (go_simp;done) | (go_simp;rfl)) ?aP (fun _ hk => hk.elim) ?aF ?aO ?aB ?aS ?aL ?_;(case aP => exact k40_mkM _ _ _ (⟨(rd_T40 l0 x12_1).f0,(rd_T40 l0 x12_1).f1⟩ : S40));(case aB => exact (by repeat (first | (with_reducible first | exact HB.out | apply below_alloc | apply pw_below_drewN | apply below_drew1 | refine below_set ?_ GE597.out) | exact HB.out)));(case aF => exact (fun k_ hk => Kd.freshB (g := gb597) (o := .cells #[.int .i64 ((rd_T40 l0 x12_1).f0),.int .i64 ((rd_T40 l0 x12_1).f1)] 40 (0,0)) (by (with_reducible repeat (first | refine blk_drewN ?_ _ | refine blk_drew ?_ | refine blk_alloc ?_ _));refine blk_put (cs := #[.int .i64 ((rd_T40 l0 x12_1).f0),.int .i64 0]) ?_ 1 _ rfl;(with_reducible repeat (first | refine blk_drewN ?_ _ | refine blk_drew ?_ | refine blk_alloc ?_ _));refine blk_put (cs := #[.int .i64 0,.int .i64 0]) ?_ 0 _ rfl;(with_reducible repeat (first | refine blk_drewN ?_ _ | refine blk_drew ?_ | refine blk_alloc ?_ _));exact BK597.out) k_ hk));(case aO => exact (by (with_reducible repeat (first | apply Kd.R_alloc | apply Kd.R_drewN | apply Kd.R_drew));exact Kd.R_mono (Kd.R_far (p := ⟨gb597,1,none⟩) (Kd.R_far (p := ⟨gb597,0,none⟩) (Kd.R_mono HO_7.out (fun k_ hk => (⟨hk,hk.2⟩ : _ ∧ k_ ≠ gb597))) (fun _ hk => hk.2) (.int .i64 ((rd_T40 l0 x12_1).f0))) (fun _ hk => hk.2) (.int .i64 ((rd_T40 l0 x12_1).f1))) (fun _ hk => hk.1.2)));(case aS => exact (below_size (by repeat (first | (with_reducible first | exact HB.out | apply below_alloc | apply pw_below_drewN | apply below_drew1 | refine below_set ?_ GE597.out) | exact HB.out))));(case aL => have := LMc9.out;omega);intro v599 w12 ho hb hg hat;rw [← Ny598.out] at ho;have n0_ := Aside0.mk (blk_grown (g := gb597) (o := .cells #[.int .i64 ((rd_T40 l0 x12_1).f0),.int .i64 ((rd_T40 l0 x12_1).f1)] 40 (0,0)) (by (with_reducible repeat (first | refine blk_drewN ?_ _ | refine blk_drew ?_ | refine blk_alloc ?_ _));refine blk_put (cs := #[.int .i64 ((rd_T40 l0 x12_1).f0),.int .i64 0]) ?_ 1 _ rfl;(with_reducible repeat (first | refine blk_drewN ?_ _ | refine blk_drew ?_ | refine blk_alloc ?_ _));refine blk_put (cs := #[.int .i64 0,.int .i64 0]) ?_ 0 _ rfl;(with_reducible repeat (first | refine blk_drewN ?_ _ | refine blk_drew ?_ | refine blk_alloc ?_ _));exact BK597.out) hg (Kd.R_away HO_7.out (fun _ hk => hk.2)));have n1_ := Aside0.mk (hb);have n2_ := Aside0.mk (ho);clear BK597;clear HB;clear HO_7;have BK597 := n0_;have HB := n1_;have HO600 := n2_;clear n0_ n1_ n2_;clear ho hb hg hat))
                  go_roundg k1
                  case measure => have := HK1.out;omega
                  case rel => exact ⟨(y598),(wrap64 (x12_1 + 1)),(by first | rfl | (simp;done) | (simp [*];done)),H',⟨by have := HK1.out;omega⟩,⟨by (with_reducible repeat (first | apply Kd.R_alloc | apply Kd.R_drewN | apply Kd.R_drew));exact Kd.R_mono HO600.out (fun _ hk => trivial)⟩,⟨by repeat (first | (with_reducible first | exact HB.out | apply below_alloc | apply pw_below_drewN | apply below_drew1 | refine below_set ?_ GE597.out) | exact HB.out)⟩⟩
                · rw [if_neg c9] at H
                  exact absurd H (by simp)
              · rw [if_neg c8] at H
                have c8b0 : decide (((rd_T40 l0 x12_1).f0) ≤ a2) = false := decide_eq_false c8
                clear c8
                have H' := Aside0.mk H
                clear H
                have p596 : 0 ≤ (x12_1 : Int) := of_decide_eq_true (by first | (with_reducible assumption) | assumption)
                have q596 : x12_1 < (l0.length : Int) := of_decide_eq_true (by first | (with_reducible assumption) | assumption)
                obtain ⟨ad596,e596,hx596_0,hx596_1⟩ := at_T40 HR0.out x12_1 p596 q596
                cases e596
                replace hx596_0 := (HB.out.cell (World.block_lt_of_cell? w _ hx596_0)).trans hx596_0
                replace hx596_1 := (HB.out.cell (World.block_lt_of_cell? w _ hx596_1)).trans hx596_1
                replace p596 := eq_true p596
                replace q596 := eq_true q596
                go_wp2_with (first | ((with_reducible refine gate_dst (N := 9) rfl ?_);refine box_event ?hg (N := 9) ?hd (cs := #[.int .i64 0,.int .i64 0]) (t := 40) ?hr ?_;(case hd => rfl);(case hg => rfl);(case hr => first | (go_simp;done) | (go_simp;rfl));intro gb597 hg w13 hbox hb;have n0_ := Aside0.mk (Kd.R_below (Kd.R_elderB (by (with_reducible repeat (first | apply Kd.R_alloc | apply Kd.R_drewN | apply Kd.R_drew));exact HO_7.out) gb597 (Nat.le_of_eq hg.symm)) hb);have n1_ := Aside0.mk (below_step (by repeat (first | (with_reducible first | exact HB.out | apply below_alloc | apply pw_below_drewN | apply below_drew1) | exact HB.out)) hb);have n2_ := Aside0.mk (hbox);have n3_ := Aside0.mk ((by rw [hg];exact (below_size (by repeat (first | (with_reducible first | exact HB.out | apply below_alloc | apply pw_below_drewN | apply below_drew1) | exact HB.out))) : w.heap.size ≤ gb597));have n4_ := Aside0.mk ((by rw [hg];exact (below_size (by repeat (first | (with_reducible first | exact HB.out | apply below_alloc | apply pw_below_drewN | apply below_drew1) | exact HB.out))) : w.heap.size ≤ gb597));clear HO_7;clear HB;have HO_7 := n0_;have HB := n1_;have BK597 := n2_;have GW597 := n3_;have GE597 := n4_;clear n0_ n1_ n2_ n3_ n4_;clear hb hbox hg;have hcz14_0 : w13.cell? ⟨gb597,0,none⟩ = some (.int .i64 0) := (blk_cell BK597.out 0).trans rfl;have hcz14_1 : w13.cell? ⟨gb597,1,none⟩ = some (.int .i64 0) := (blk_cell BK597.out 1).trans rfl;have hfz14_0 := blk_frozen BK597.out 0;have hfz14_1 := blk_frozen BK597.out 1))
                go_roundg k1
                case measure => have := HK1.out;omega
                case rel => exact ⟨(x7_1),(wrap64 (x12_1 + 1)),(by first | rfl | (simp;done) | (simp [*];done)),H',⟨by have := HK1.out;omega⟩,⟨by (with_reducible repeat (first | apply Kd.R_alloc | apply Kd.R_drewN | apply Kd.R_drew));exact Kd.R_mono (Kd.R_far (p := ⟨gb597,1,none⟩) (Kd.R_far (p := ⟨gb597,0,none⟩) (Kd.R_mono HO_7.out (fun k_ hk => (⟨hk,hk.2⟩ : _ ∧ k_ ≠ gb597))) (fun _ hk => hk.2) (.int .i64 ((rd_T40 l0 x12_1).f0))) (fun _ hk => hk.2) (.int .i64 ((rd_T40 l0 x12_1).f1))) (fun _ hk => trivial)⟩,⟨by repeat (first | (with_reducible first | exact HB.out | apply below_alloc | apply pw_below_drewN | apply below_drew1 | refine below_set ?_ GE597.out) | exact HB.out)⟩⟩
            · rw [if_neg c7] at H
              have c7b0 : decide (a1 ≤ ((rd_T40 l0 x12_1).f0)) = false := decide_eq_false c7
              clear c7
              have H' := Aside0.mk H
              clear H
              have p596 : 0 ≤ (x12_1 : Int) := of_decide_eq_true (by first | (with_reducible assumption) | assumption)
              have q596 : x12_1 < (l0.length : Int) := of_decide_eq_true (by first | (with_reducible assumption) | assumption)
              obtain ⟨ad596,e596,hx596_0,hx596_1⟩ := at_T40 HR0.out x12_1 p596 q596
              cases e596
              replace hx596_0 := (HB.out.cell (World.block_lt_of_cell? w _ hx596_0)).trans hx596_0
              replace hx596_1 := (HB.out.cell (World.block_lt_of_cell? w _ hx596_1)).trans hx596_1
              replace p596 := eq_true p596
              replace q596 := eq_true q596
              go_wp2_with (first | ((with_reducible refine gate_dst (N := 9) rfl ?_);refine box_event ?hg (N := 9) ?hd (cs := #[.int .i64 0,.int .i64 0]) (t := 40) ?hr ?_;(case hd => rfl);(case hg => rfl);(case hr => first | (go_simp;done) | (go_simp;rfl));intro gb597 hg w15 hbox hb;have n0_ := Aside0.mk (Kd.R_below (Kd.R_elderB (by (with_reducible repeat (first | apply Kd.R_alloc | apply Kd.R_drewN | apply Kd.R_drew));exact HO_7.out) gb597 (Nat.le_of_eq hg.symm)) hb);have n1_ := Aside0.mk (below_step (by repeat (first | (with_reducible first | exact HB.out | apply below_alloc | apply pw_below_drewN | apply below_drew1) | exact HB.out)) hb);have n2_ := Aside0.mk (hbox);have n3_ := Aside0.mk ((by rw [hg];exact (below_size (by repeat (first | (with_reducible first | exact HB.out | apply below_alloc | apply pw_below_drewN | apply below_drew1) | exact HB.out))) : w.heap.size ≤ gb597));have n4_ := Aside0.mk ((by rw [hg];exact (below_size (by repeat (first | (with_reducible first | exact HB.out | apply below_alloc | apply pw_below_drewN | apply below_drew1) | exact HB.out))) : w.heap.size ≤ gb597));clear HO_7;clear HB;have HO_7 := n0_;have HB := n1_;have BK597 := n2_;have GW597 := n3_;have GE597 := n4_;clear n0_ n1_ n2_ n3_ n4_;clear hb hbox hg;have hcz16_0 : w15.cell? ⟨gb597,0,none⟩ = some (.int .i64 0) := (blk_cell BK597.out 0).trans rfl;have hcz16_1 : w15.cell? ⟨gb597,1,none⟩ = some (.int .i64 0) := (blk_cell BK597.out 1).trans rfl;have hfz16_0 := blk_frozen BK597.out 0;have hfz16_1 := blk_frozen BK597.out 1))
              go_roundg k1
              case measure => have := HK1.out;omega
              case rel => exact ⟨(x7_1),(wrap64 (x12_1 + 1)),(by first | rfl | (simp;done) | (simp [*];done)),H',⟨by have := HK1.out;omega⟩,⟨by (with_reducible repeat (first | apply Kd.R_alloc | apply Kd.R_drewN | apply Kd.R_drew));exact Kd.R_mono (Kd.R_far (p := ⟨gb597,1,none⟩) (Kd.R_far (p := ⟨gb597,0,none⟩) (Kd.R_mono HO_7.out (fun k_ hk => (⟨hk,hk.2⟩ : _ ∧ k_ ≠ gb597))) (fun _ hk => hk.2) (.int .i64 ((rd_T40 l0 x12_1).f0))) (fun _ hk => hk.2) (.int .i64 ((rd_T40 l0 x12_1).f1))) (fun _ hk => trivial)⟩,⟨by repeat (first | (with_reducible first | exact HB.out | apply below_alloc | apply pw_below_drewN | apply below_drew1 | refine below_set ?_ GE597.out) | exact HB.out)⟩⟩
          · rw [if_neg c6] at H
            exact absurd H (by simp)
        · rw [if_neg c5] at H
          exact absurd H (by simp)
      · rw [if_neg c4] at H
        have c4b0 : decide (x12_1 < (l0.length : Int)) = false := decide_eq_false c4
        clear c4
        obtain rfl := Option.some.inj H
        go_wp2
        go_ret
        exact ⟨_,by first | rfl | (simp [errW_none,errW_some] <;> rfl) | (simp [*,errW_none,errW_some] <;> rfl),by (with_reducible repeat (first | apply Kd.R_alloc | apply Kd.R_drewN | apply Kd.R_drew));exact HO_7.out,by repeat (first | (with_reducible first | exact HB.out | apply below_alloc | apply pw_below_drewN | apply below_drew1) | exact HB.out)⟩

/-- Without the elements from a1 on up to a2 (one at least). -/
def leaf_Pair_108.f (l0 : List S40) (a1 a2 : Int) : Option (List S40) := if 0 ≤ a1 ∧ a1 < a2 ∧ a2 ≤ (l0.length : Int) then some (l0.take a1.toNat ++ l0.drop a2.toNat) else none
set_option maxHeartbeats 4000000 in
set_option maxRecDepth 100000 in
theorem leaf_Pair_108.low (g n cap i j : Nat) (cur : Array Value) (w : World) (hg : w.heap[g]? = some (.cells cur 40 (0,0))) (hsz : cur.size = ((cap) * 2)) (hn : n ≤ cap) (hm : cap ≤ 9223372036854775807) (hij : i < j) (hj : j ≤ n) (h1 : ∀ u ∈ cur.toList.take ((n) * 2),u.oneCell' = true) :
    Calls Try.prog 108 #[.slice (some ⟨g,0,none⟩) n cap,.int .i64 i,.int .i64 j] w fun e w' => e = .returned (.slice (some ⟨g,0,none⟩) (i + (n - j)) cap) ∧ w' = (w.drew.setCells g ((i) * 2) ((cur.toList.take ((n) * 2)).drop ((j) * 2))).setCells g (((i + (n - j)) * 2)) (Builtin.zeroCells (Value.agg #[.int .i64 0,.int .i64 0]).cells (n - (i + (n - j)))).toList := by
  obtain ⟨i0,hi0,_,hz1,_⟩ := info_parts info40
  obtain ⟨news,hnews⟩ : ∃ news,news = (cur.toList.take ((n) * 2)).drop ((j) * 2) := ⟨_,rfl⟩
  have hlen : news.length = ((n - j) * 2) := by rw [hnews];simp;omega
  obtain ⟨A,hA,hsrc⟩ : ∃ A : Addr,(if cap = j then some (⟨g,0,none⟩ : Addr) else some ⟨g,((j) * 2),none⟩) = some A ∧ Hid (∀ t u,news[t]? = some u → w.drew.cell? (A.add t) = some u) := by
    by_cases h : cap = j
    · refine ⟨⟨g,0,none⟩,by simp [h],Lib.hid fun t u hu => ?_⟩
      have h0 : news.length = 0 := by rw [hlen];omega
      rw [List.length_eq_zero_iff.1 h0] at hu
      simp at hu
    · refine ⟨⟨g,((j) * 2),none⟩,by simp [h],Lib.hid fun t u hu => ?_⟩
      rw [add_lit']
      show w.cell? _ = _
      rw [cells_cell hg]
      rw [hnews,List.getElem?_drop,List.getElem?_take] at hu
      split at hu
      · exact hu
      · cases hu
  have s1 : Hid (news.length = ((n - j) * 2)) := Lib.hid hlen
  have s2 : Hid (∀ u ∈ news,u.oneCell' = true) := Lib.hid (by
    intro u hu
    rw [hnews] at hu
    exact h1 u (List.mem_of_mem_drop hu))
  have s3 : Hid (∀ t,t < news.length → (w.drew.cell? ⟨g,0 + ((i) * 2) + t,none⟩).isSome = true ∧ w.drew.frozen? ⟨g,0 + ((i) * 2) + t,none⟩ = false) := Lib.hid (by
    intro t ht
    rw [hlen] at ht
    exact ⟨cells_some (w := w) hg (by omega),cells_free (w := w) hg _⟩)
  obtain ⟨W1,hW1⟩ : ∃ W1,W1 = w.drew.setCells g (0 + ((i) * 2)) news := ⟨_,rfl⟩
  obtain ⟨cur1,g1,g2,_⟩ := setCells_heap_at g news (0 + ((i) * 2)) w.drew cur 40 (0,0) hg (by rw [hlen];omega)
  rw [← hW1] at g1
  have hcl : ∀ ty c,(Builtin.clear_ #[34] ty #[.slice (some ⟨g,((i + (n - j)) * 2),none⟩) (n - (i + (n - j))) c]).run Try.prog W1 = .ok (.tuple #[]) (W1.setCells g (((i + (n - j)) * 2)) (Builtin.zeroCells (Value.agg #[.int .i64 0,.int .i64 0]).cells (n - (i + (n - j)))).toList) :=
    fun ty c => run_clear_cells W1 34 40 ty (Value.agg #[.int .i64 0,.int .i64 0]) Try.underlying34 Try.zeroValue40 g _ _ c (by omega) (zeroCells_one _ _ (by simp [Value.cells,Value.oneCell'])) (fun t ht => cells_some g1 (by rw [zeroCells_len] at ht;simp [Value.cells] at ht;omega)) (fun t _ => cells_free g1 _)
  have hW : Hid (W1 = w.drew.setCells g (0 + ((i) * 2)) news) := Lib.hid hW1
  have hic : i ≤ cap := by omega
  have hjc : j ≤ cap := by omega
  rw [← hnews]
  rw [show w.drew.setCells g ((i) * 2) news = W1 from by rw [hW1,Nat.zero_add]]
  clear hW1 hnews hlen g1 g2 hg hsz h1
  go_enter Try.func108,Try.ntmps108
  go_wp2_with fail
  go_region_law (refine step_append_room rfl (.tmp 22) (.tmp 25) 34 rfl 40 i0 2 Try.underlying34 hi0 hz1 g 0 i cap (by simp [Act.eval,Act.put]) A (n - j) (cap - j) news (by simp [Act.eval,Act.put]) (by have := s1.out;omega) hsrc.out s2.out (by omega) (by have := s3.out;(try simp only [Nat.mul_one]);exact this) ?_;(try simp only [Nat.mul_one]);rw [← hW.out])
  go_wp2
  go_ret
  exact ⟨rfl,rfl⟩
set_option maxHeartbeats 1000000 in
theorem leaf_Pair_108.calls (P0_ : Nat → Prop) (u9000_ : Value) (l0 : List S40) (a1 : Int) (a2 : Int) (r : List S40) (w0 w : World) (hB : Below w0.heap.size w0 w) (ho0 : Kd.R k40 40 w w0.heap.size P0_ u9000_ l0) (h : leaf_Pair_108.f l0 a1 a2 = some r) :
    Calls Try.prog 108 #[u9000_,.int .i64 a1,.int .i64 a2] w fun e w' => ∃ v0_ : Value,e = .returned v0_ ∧ Kd.R k40 40 w' w0.heap.size (fun k_ => (P0_ k_ ∨ w.heap.size ≤ k_)) v0_ r ∧ Below w0.heap.size w0 w' ∧ Kept w w' (fun k_ => P0_ k_) := by
  unfold leaf_Pair_108.f at h
  split at h
  · rename_i hc
    obtain ⟨h0,h1,h2⟩ := hc
    obtain rfl := Option.some.inj h
    obtain ⟨i,rfl⟩ := Int.eq_ofNat_of_zero_le h0
    obtain ⟨j,rfl⟩ := Int.eq_ofNat_of_zero_le (show 0 ≤ a2 by omega)
    rw [Int.toNat_natCast,Int.toNat_natCast]
    obtain ⟨hok,hl,ho⟩ := (R_iff flat40).1 ho0
    rcases ho with ⟨rfl,hz⟩ | ⟨g,cap,cur,rfl,hb,hg,hn,hm,hs,ht⟩
    · omega
    · have hP : P0_ g := hok g rfl
      have hs' : cur.size = cap * 2 := hs
      have ht' : cur.toList.take (l0.length * 2) = l0.flatMap enc40 := ht
      have hij : i < j := by omega
      have hjl : j ≤ l0.length := by omega
      have hm' : cap ≤ 9223372036854775807 := by simpa [maxLen] using hm
      have hlow : Calls Try.prog 108 #[.slice (some ⟨g,0,none⟩) l0.length cap,.int .i64 i,.int .i64 j] w fun e w' => e = .returned (.slice (some ⟨g,0,none⟩) (i + (l0.length - j)) cap) ∧ w' = (w.drew.setCells g (i * 2) ((cur.toList.take (l0.length * 2)).drop (j * 2))).setCells g ((i + (l0.length - j)) * 2) (Builtin.zeroCells (Value.agg #[.int .i64 0,.int .i64 0]).cells (l0.length - (i + (l0.length - j)))).toList := by
        have hones : ∀ u ∈ cur.toList.take (l0.length * 2),u.oneCell' = true := by rw [ht'];exact Flat.ones flat40 l0
        (try simp only [Nat.mul_one] at hones hs' ⊢)
        exact leaf_Pair_108.low g l0.length cap i j cur w hg hs' hn hm' hij hjl hones
      refine hlow.mono ?_
      rintro e w' ⟨rfl,rfl⟩
      rw [ht']
      obtain ⟨cur1,g1,g2,g3⟩ := setCells_heap_at g ((l0.flatMap enc40).drop (j * 2)) (i * 2) w.drew cur 40 (0,0) hg (by rw [List.length_drop,flatMap_length flat40,hs'];show i * 2 + (l0.length * 2 - j * 2) ≤ _;omega)
      obtain ⟨cur2,k1,k2,k3⟩ := setCells_heap_at g (Builtin.zeroCells (Value.agg #[.int .i64 0,.int .i64 0]).cells (l0.length - (i + (l0.length - j)))).toList ((i + (l0.length - j)) * 2) _ cur1 40 (0,0) g1 (by rw [zeroCells_len,g2,hs'];simp [Value.cells];omega)
      have hlen : (l0.take i ++ l0.drop j).length = i + (l0.length - j) := by simp;omega
      have hcells : cur2.toList.take ((i + (l0.length - j)) * 2) = (l0.take i ++ l0.drop j).flatMap enc40 := by
        have e1 : ((l0.flatMap enc40).drop (j * 2)) = (l0.drop j).flatMap enc40 := flatMap_drop flat40 l0 j
        have e2 : cur.toList.take (i * 2) = (l0.take i).flatMap enc40 := by
          have : (l0.flatMap enc40).take (i * 2) = (l0.take i).flatMap enc40 := flatMap_take flat40 l0 i
          rw [← this,← ht',List.take_take]
          congr 1
          omega
        have e3 : ((l0.drop j).flatMap enc40).length = (l0.length - j) * 2 := by rw [flatMap_length flat40,List.length_drop];rfl
        have e5 : cur1.toList.length = cap * 2 := by simp [g2,hs']
        rw [k3,List.append_assoc,List.take_append_of_le_length (by rw [List.length_take,e5];omega),List.take_take,Nat.min_self,g3,e1,e2,List.flatMap_append]
        have e4 : ((l0.take i).flatMap enc40 ++ (l0.drop j).flatMap enc40).length = (i + (l0.length - j)) * 2 := by
          rw [← List.flatMap_append,flatMap_length flat40,hlen];rfl
        exact List.take_left' e4
      refine ⟨_,rfl,(R_iff flat40).2 ⟨fun k hk => ?_,by rw [flatMap_length flat40],.inr ⟨g,cap,cur2,by rw [hlen],hb,k1,by rw [hlen];omega,hm,by rw [k2,g2];exact hs,by rw [hlen];exact hcells⟩⟩,?_,?_⟩
      · have : g = k := by simpa [Value.ownBlock] using hk
        subst this
        exact .inl hP
      · exact bel_setCells (bel_setCells (below_drew1 hB) hb _ _) hb _ _
      · exact kep_setCells (kep_setCells (Kept.drew (Kept.refl w _)) hP _ _) hP _ _
  · cases h

def leaf_Leaf_Cut.f (l0 : List (S40)) (a1 : Int) : Option ((List (S40)) × Int × Bool) := (leaf_Leaf_find.f l0 a1).bind fun bt609 => ((leaf_Pair_99.f l0).bind fun t611 => (if bt609.2 = true then ((leaf_Pair_108.f t611 bt609.1 (wrap64 (bt609.1 + 1))).bind fun t614 => (if 0 ≤ bt609.1 then (if bt609.1 < (l0.length : Int) then (some (t614,(rd_T40 l0 bt609.1).f1,true)) else (none)) else (none))) else (some (t611,0,false))))
def leaf_Leaf_Cut.T5 : Bool × List (List Nat × List Nat) := (true,[([],[]),([],[]),([],[]),([2],[2]),([0,1,3],[0,1,3]),([],[]),([],[]),([5,6],[5,6]),([7],[7]),([8],[8]),([4,4,0,1,2,3,4],[4]),([9,10,0,1,2,3,4,5,6,7,8,9,10],[9]),([11,0,1,2,3,4,5,6,7,8,9,10,11],[])])
def leaf_Leaf_Cut.B5 : List Nat := [0,0,0,4,15,0,0,96,224,480,31,2047,4095]
theorem leaf_Leaf_Cut.tab5 : rtab .any (opsOf Try.f66 5) = leaf_Leaf_Cut.T5 := by kernel_rfl
theorem leaf_Leaf_Cut.bits5 : waitsOk leaf_Leaf_Cut.T5.2 leaf_Leaf_Cut.B5 = true := by kernel_rfl
set_option maxHeartbeats 8000000 in
set_option maxRecDepth 100000 in
theorem leaf_Leaf_Cut.calls (A0 : Option Addr) (c0 : Nat) (l0 : List (S40)) (a1 : Int) (r1 : List (S40)) (r2 : Int) (r3 : Bool) (w : World) (hr0 : Kd.C k40 w A0 l0.length l0) (hc0 : l0.length ≤ c0) (h : leaf_Leaf_Cut.f l0 a1 = some (r1,r2,r3)) :
    Calls Try.prog 66 #[.slice A0 l0.length c0,.int .i64 a1] w fun e w' => ∃ v0_ : Value,e = .returned (.tuple #[v0_,.int .i64 r2,.bool r3]) ∧ Kd.R k40 40 w' w.heap.size (fun _ => True) v0_ r1 ∧ Below w.heap.size w w' := by
  have HR0 := Aside0.mk hr0
  have HC0 := Aside0.mk hc0
  clear hr0 hc0
  have HB := Aside0.mk (Below.refl w.heap.size w)
  have H : ((leaf_Leaf_find.f l0 a1).bind fun bt609 => ((leaf_Pair_99.f l0).bind fun t611 => (if bt609.2 = true then ((leaf_Pair_108.f t611 bt609.1 (wrap64 (bt609.1 + 1))).bind fun t614 => (if 0 ≤ bt609.1 then (if bt609.1 < (l0.length : Int) then (some (t614,(rd_T40 l0 bt609.1).f1,true)) else (none)) else (none))) else (some (t611,0,false))))) = some (r1,r2,r3) := h
  clear h
  replace H := Option.bind_eq_some_iff.mp H
  obtain ⟨⟨t609,t610⟩,A30,H⟩ := H
  replace H : ((leaf_Pair_99.f l0).bind fun t611 => (if t610 = true then ((leaf_Pair_108.f t611 t609 (wrap64 (t609 + 1))).bind fun t614 => (if 0 ≤ t609 then (if t609 < (l0.length : Int) then (some (t614,(rd_T40 l0 t609).f1,true)) else (none)) else (none))) else (some (t611,0,false)))) = some (r1,r2,r3) := H
  have A3 := Aside0.mk A30
  clear A30
  replace H := Option.bind_eq_some_iff.mp H
  obtain ⟨t611,A40,H⟩ := H
  replace H : (if t610 = true then ((leaf_Pair_108.f t611 t609 (wrap64 (t609 + 1))).bind fun t614 => (if 0 ≤ t609 then (if t609 < (l0.length : Int) then (some (t614,(rd_T40 l0 t609).f1,true)) else (none)) else (none))) else (some (t611,0,false))) = some (r1,r2,r3) := H
  have A4 := Aside0.mk A40
  clear A40
  by_cases c5 : t610 = true
  · subst c5
    have H1 : ((leaf_Pair_108.f t611 t609 (wrap64 (t609 + 1))).bind fun t614 => (if 0 ≤ t609 then (if t609 < (l0.length : Int) then (some (t614,(rd_T40 l0 t609).f1,true)) else (none)) else (none))) = some (r1,r2,r3) := by rw [if_pos rfl] at H;exact H
    clear H
    have H := H1
    clear H1
    replace H := Option.bind_eq_some_iff.mp H
    obtain ⟨t614,A60,H⟩ := H
    replace H : (if 0 ≤ t609 then (if t609 < (l0.length : Int) then (some (t614,(rd_T40 l0 t609).f1,true)) else (none)) else (none)) = some (r1,r2,r3) := H
    have A6 := Aside0.mk A60
    clear A60
    by_cases c7 : 0 ≤ t609
    · rw [if_pos c7] at H
      have c7b0 : decide (0 ≤ t609) = true := decide_eq_true c7
      clear c7
      by_cases c8 : t609 < (l0.length : Int)
      · rw [if_pos c8] at H
        have c8b0 : decide (t609 < (l0.length : Int)) = true := decide_eq_true c8
        clear c8
        simp only [Option.some.injEq,Prod.mk.injEq] at H
        obtain ⟨rfl,rfl,rfl⟩ := H
        go_enter Try.func66,Try.ntmps66
        try go_wp2_with (first | ((with_reducible refine gate_callee (f := 98) rfl ?_);refine goesL_ (some 13) rfl rfl Try.func98 (by kernel_rfl) rfl #[.slice A0 l0.length c0,.int .i64 a1] rfl (by (try simp only [List.map_toArray,List.map_cons,List.map_nil]);first | done | rfl | (simp only [List.length_drop,List.length_take];rfl)) ?_;(with_reducible refine (leaf_Leaf_find.calls _ _ l0 a1 t609 true _ ?side1 ?side2 A3.out).mono ?_);(case side1 => repeat (first | exact HR0.out | (with_reducible refine Kd.C_alloc ?_ _) | (with_reducible refine Kd.C_drewN ?_ _) | (with_reducible refine Kd.C_drew ?_)));(case side2 => exact HC0.out);rintro e w9 ⟨rfl,hb⟩;refine ⟨_,rfl,?_⟩;have n0_ := Aside0.mk (below_step (by repeat (first | (with_reducible first | exact HB.out | apply below_alloc | apply pw_below_drewN | apply below_drew1) | exact HB.out)) hb);clear HB;have HB := n0_;clear n0_;(try clear hb);(try clear hb2);(try clear hk);(try clear hi)) | ((with_reducible refine gate_callee (f := 99) rfl ?_);refine goesL_ (some 17) rfl rfl Try.func99 (by kernel_rfl) rfl #[.slice A0 l0.length c0] rfl (by (try simp only [List.map_toArray,List.map_cons,List.map_nil]);first | done | rfl | (simp only [List.length_drop,List.length_take];rfl)) ?_;(with_reducible refine (leaf_Pair_99.calls _ _ l0 t611 _ ?side1 ?side2 A4.out).mono ?_);(case side1 => repeat (first | exact (Kd.C_below HR0.out HB.out) | (with_reducible refine Kd.C_alloc ?_ _) | (with_reducible refine Kd.C_drewN ?_ _) | (with_reducible refine Kd.C_drew ?_)));(case side2 => exact HC0.out);rintro e w10 ⟨v612,rfl,ho0,hb⟩;refine ⟨_,rfl,?_⟩;have n0_ := Aside0.mk (Kd.R_lower ho0 (below_size (by repeat (first | (with_reducible first | exact HB.out | apply below_alloc | apply pw_below_drewN | apply below_drew1) | exact HB.out))));have n1_ := Aside0.mk (below_step (by repeat (first | (with_reducible first | exact HB.out | apply below_alloc | apply pw_below_drewN | apply below_drew1) | exact HB.out)) hb);clear HB;have HO613 := n0_;have HB := n1_;clear n0_ n1_;(try clear hb);(try clear hb2);(try clear hk);(try clear hi);(try clear ho0)))
        have n0_ := Aside0.mk (Kd.R_drew HO613.out)
        have n1_ := Aside0.mk (below_drew1 HB.out)
        clear HO613
        clear HB
        have HO613 := n0_
        have HB := n1_
        clear n0_ n1_
        have p617 : 0 ≤ (t609 : Int) := of_decide_eq_true (by first | (with_reducible assumption) | assumption)
        have q617 : t609 < (l0.length : Int) := of_decide_eq_true (by first | (with_reducible assumption) | assumption)
        obtain ⟨ad617,e617,hx617_0,hx617_1⟩ := at_T40 HR0.out t609 p617 q617
        have hw617_1 := hx617_1
        have hw617_0 := hx617_0
        cases e617
        replace hx617_0 := (HB.out.cell (World.block_lt_of_cell? w _ hx617_0)).trans hx617_0
        replace hx617_1 := (HB.out.cell (World.block_lt_of_cell? w _ hx617_1)).trans hx617_1
        replace p617 := eq_true p617
        replace q617 := eq_true q617
        obtain ⟨Ao12,co12,eo12⟩ := Kd.R_slice HO613.out
        (first | subst eo12 | (injection eo12 with f1_ f2_ f3_;have f4_ := f1_.symm;have f5_ := f3_.symm;clear f1_ f2_ f3_;subst f4_;subst f5_))
        refine start_ (n := 13) (S := fun w' => w'.cell? (ad617.add ((t609).toNat * 2)) = some (.int .i64 ((rd_T40 l0 t609).f0)) ∧ w'.cell? ⟨(ad617.add ((t609).toNat * 2)).block,(ad617.add ((t609).toNat * 2)).off + 1,none⟩ = some (.int .i64 ((rd_T40 l0 t609).f1))) (ds := []) #[false,false,false,false,false,false,false,false,false,false,false,false,false] (by kernel_rfl) rfl rfl ⟨((HB.out.cell (World.block_lt_of_cell? w _ hw617_0)).trans hw617_0),((HB.out.cell (World.block_lt_of_cell? w _ hw617_1)).trans hw617_1)⟩ (fun hHeld => ?_);refine with_tabW leaf_Leaf_Cut.tab5 leaf_Leaf_Cut.bits5 (fun HT_ HW_ => ?_)
        generalize w10.drew = w11 at HO613 HB hx617_0 hx617_1 hHeld ⊢
        refine pure_ (i := 0) (N := some 21) (v := ?_) (a' := ?_) #[true,false,false,false,false,false,false,false,false,false,false,false,false] rfl rfl (any_of HT_.out (by kernel_rfl)) (fun _ _ _ h => h) (Or.inl ⟨by rfl,?_⟩) ?_ ?_
        rotate_left
        · intro w'
          go_simp
          with_reducible rfl
        rotate_left
        · simp only [Act.put,List.setIfInBounds_toArray,List.set_cons_zero,List.set_cons_succ,i64_w,i32_w]
          rfl
        refine pure_ (i := 1) (N := some 22) (v := ?_) (a' := ?_) #[true,true,false,false,false,false,false,false,false,false,false,false,false] rfl rfl (any_of HT_.out (by kernel_rfl)) (fun _ _ _ h => h) (Or.inl ⟨by rfl,?_⟩) ?_ ?_
        rotate_left
        · intro w'
          go_simp
          with_reducible rfl
        rotate_left
        · simp only [Act.put,List.setIfInBounds_toArray,List.set_cons_zero,List.set_cons_succ,i64_w,i32_w]
          rfl
        refine pure_ (i := 2) (N := some 23) (v := ?_) (a' := ?_) #[true,true,true,false,false,false,false,false,false,false,false,false,false] rfl rfl (any_of HT_.out (by kernel_rfl)) (fun _ _ _ h => h) (Or.inl ⟨by rfl,?_⟩) ?_ ?_
        rotate_left
        · intro w'
          go_simp
          with_reducible rfl
        rotate_left
        · simp only [Act.put,List.setIfInBounds_toArray,List.set_cons_zero,List.set_cons_succ,i64_w,i32_w]
          rfl
        refine pure_ (i := 3) (N := some 24) (v := ?_) (a' := ?_) #[true,true,true,true,false,false,false,false,false,false,false,false,false] rfl rfl (any_of HT_.out (by kernel_rfl)) (fun _ _ _ h => h) (Or.inl ⟨by rfl,?_⟩) ?_ ?_
        rotate_left
        · intro w'
          go_simp
          with_reducible rfl
        rotate_left
        · simp only [Act.put,List.setIfInBounds_toArray,List.set_cons_zero,List.set_cons_succ,i64_w,i32_w]
          rfl
        refine pure_ (i := 5) (N := some 26) (v := ?_) (a' := ?_) #[true,true,true,true,false,true,false,false,false,false,false,false,false] rfl rfl (any_of HT_.out (by kernel_rfl)) (fun _ _ _ h => h) (Or.inl ⟨by rfl,?_⟩) ?_ ?_
        rotate_left
        · intro w'
          go_simp
          with_reducible rfl
        rotate_left
        · simp only [Act.put,List.setIfInBounds_toArray,List.set_cons_zero,List.set_cons_succ,i64_w,i32_w]
          rfl
        refine pure_ (i := 6) (N := some 27) (v := ?_) (a' := ?_) #[true,true,true,true,false,true,true,false,false,false,false,false,false] rfl rfl (any_of HT_.out (by kernel_rfl)) (fun _ _ _ h => h) (Or.inl ⟨by rfl,?_⟩) ?_ ?_
        rotate_left
        · intro w'
          go_simp
          with_reducible rfl
        rotate_left
        · simp only [Act.put,List.setIfInBounds_toArray,List.set_cons_zero,List.set_cons_succ,i64_w,i32_w]
          rfl
        refine pure_ (i := 7) (N := some 28) (v := ?_) (a' := ?_) #[true,true,true,true,false,true,true,true,false,false,false,false,false] rfl rfl (any_of HT_.out (by kernel_rfl)) (fun _ _ _ h => h) (Or.inl ⟨by rfl,?_⟩) ?_ ?_
        rotate_left
        · intro w'
          go_simp
          with_reducible rfl
        rotate_left
        · simp only [Act.put,List.setIfInBounds_toArray,List.set_cons_zero,List.set_cons_succ,i64_w,i32_w]
          rfl
        refine pure_ (i := 8) (N := some 29) (v := ?_) (a' := ?_) #[true,true,true,true,false,true,true,true,true,false,false,false,false] rfl rfl (any_of HT_.out (by kernel_rfl)) (fun _ _ _ h => h) (Or.inl ⟨by rfl,?_⟩) ?_ ?_
        rotate_left
        · intro w'
          go_simp
          with_reducible rfl
        rotate_left
        · simp only [Act.put,List.setIfInBounds_toArray,List.set_cons_zero,List.set_cons_succ,i64_w,i32_w]
          rfl
        refine take_ (i := 9) (N := some 30) (v := ?_) (a' := ?_) #[true,true,true,true,false,true,true,true,true,true,false,false,false] rfl rfl (take_ofW HT_.out HW_.out (by kernel_rfl)) (fun _ _ _ h => h) (Or.inl ⟨by rfl,?_⟩) hHeld ?_ ?_
        rotate_left
        · rintro w' ⟨s0,s1⟩
          go_simp
          with_reducible rfl
        rotate_left
        · simp only [Act.put,List.setIfInBounds_toArray,List.set_cons_zero,List.set_cons_succ,i64_w,i32_w]
          rfl
        refine one_ (i := 4) (N := some 25) #[true,true,true,true,true,true,true,true,true,true,false,false,false] rfl rfl (one_of HT_.out (by kernel_rfl)) (by decide) (fun K hK => ?_)
        refine goes_ Try.func108 (by kernel_rfl) rfl #[.slice Ao12 t611.length co12,.int .i64 t609,.int .i64 (wrap64 (t609 + 1))] (by rfl) rfl rfl (by (try simp only [List.map_toArray,List.map_cons,List.map_nil]);first | done | rfl | (simp only [List.length_drop,List.length_take];rfl)) ?_
        with_reducible refine (leaf_Pair_108.calls (fun k_ => some k_ = (.slice Ao12 t611.length co12 : Value).ownBlock) (.slice Ao12 t611.length co12) t611 t609 (wrap64 (t609 + 1)) t614 w _ ?side1 ?side2 A6.out).mono ?_
        (case side1 => repeat (first | (with_reducible first | exact HB.out | apply below_alloc | apply pw_below_drewN | apply below_drew1) | exact HB.out))
        (case side2 => exact Kd.R_tight rfl HO613.out)
        rintro e w13 ⟨v615,rfl,ho0,hb,hkp⟩
        refine ⟨_,rfl,?_⟩
        have n0_ := Aside0.mk (Kd.R_mono (ok' := fun k_ => True) ho0 (fun k_ hk_ => trivial))
        have n1_ := Aside0.mk (hb)
        clear HB
        clear HO613
        have HO616 := n0_
        have HB := n1_
        clear n0_ n1_
        (try clear hb)
        (try clear hkp)
        (try clear ho0)
        refine hK.out _ _ ⟨((HB.out.cell (World.block_lt_of_cell? w _ hw617_0)).trans hw617_0),((HB.out.cell (World.block_lt_of_cell? w _ hw617_1)).trans hw617_1)⟩ (fun hHeld => ?_)
        clear hK K
        refine norm_ (a' := ?_) ?_ ?_
        rotate_left
        · show Act.put _ (some 25) _ = _
          simp only [Act.put,List.setIfInBounds_toArray,List.set_cons_zero,List.set_cons_succ,i64_w,i32_w]
          rfl
        refine pure_ (i := 10) (N := some 4) (v := ?_) (a' := ?_) #[true,true,true,true,true,true,true,true,true,true,true,false,false] rfl rfl (any_of HT_.out (by kernel_rfl)) (fun _ _ _ h => h) (Or.inl ⟨by rfl,?_⟩) ?_ ?_
        rotate_left
        · intro w'
          go_simp
          with_reducible rfl
        rotate_left
        · simp only [Act.put,List.setIfInBounds_toArray,List.set_cons_zero,List.set_cons_succ,i64_w,i32_w]
          rfl
        refine pure_ (i := 11) (N := some 5) (v := ?_) (a' := ?_) #[true,true,true,true,true,true,true,true,true,true,true,true,false] rfl rfl (any_of HT_.out (by kernel_rfl)) (fun _ _ _ h => h) (Or.inl ⟨by rfl,?_⟩) ?_ ?_
        rotate_left
        · intro w'
          go_simp
          with_reducible rfl
        rotate_left
        · simp only [Act.put,List.setIfInBounds_toArray,List.set_cons_zero,List.set_cons_succ,i64_w,i32_w]
          rfl
        refine pure_ (i := 12) (N := some 6) (v := ?_) (a' := ?_) #[true,true,true,true,true,true,true,true,true,true,true,true,true] rfl rfl (any_of HT_.out (by kernel_rfl)) (fun _ _ _ h => h) (Or.inl ⟨by rfl,?_⟩) ?_ ?_
        rotate_left
        · intro w'
          go_simp
          with_reducible rfl
        rotate_left
        · simp only [Act.put,List.setIfInBounds_toArray,List.set_cons_zero,List.set_cons_succ,i64_w,i32_w]
          rfl
        refine done_ (done_of HT_.out (by kernel_rfl)) ?_
        try go_wp2
        go_ret3
        exact ⟨_,by first | rfl | (simp [errW_none,errW_some] <;> rfl) | (simp [*,errW_none,errW_some] <;> rfl),by (with_reducible repeat (first | apply Kd.R_alloc | apply Kd.R_drewN | apply Kd.R_drew));exact HO616.out,by repeat (first | (with_reducible first | exact HB.out | apply below_alloc | apply pw_below_drewN | apply below_drew1) | exact HB.out)⟩
      · rw [if_neg c8] at H
        exact absurd H (by simp)
    · rw [if_neg c7] at H
      exact absurd H (by simp)
  · replace c5 := Bool.eq_false_iff.mpr c5
    subst c5
    have H1 : (some (t611,0,false)) = some (r1,r2,r3) := by rw [if_neg (show ¬ (false = true) by decide)] at H;exact H
    clear H
    have H := H1
    clear H1
    simp only [Option.some.injEq,Prod.mk.injEq] at H
    obtain ⟨rfl,rfl,rfl⟩ := H
    go_enter Try.func66,Try.ntmps66
    go_wp2_with (first | ((with_reducible refine gate_callee (f := 98) rfl ?_);refine goesL_ (some 13) rfl rfl Try.func98 (by kernel_rfl) rfl #[.slice A0 l0.length c0,.int .i64 a1] rfl (by (try simp only [List.map_toArray,List.map_cons,List.map_nil]);first | done | rfl | (simp only [List.length_drop,List.length_take];rfl)) ?_;(with_reducible refine (leaf_Leaf_find.calls _ _ l0 a1 t609 false _ ?side1 ?side2 A3.out).mono ?_);(case side1 => repeat (first | exact HR0.out | (with_reducible refine Kd.C_alloc ?_ _) | (with_reducible refine Kd.C_drewN ?_ _) | (with_reducible refine Kd.C_drew ?_)));(case side2 => exact HC0.out);rintro e w14 ⟨rfl,hb⟩;refine ⟨_,rfl,?_⟩;have n0_ := Aside0.mk (below_step (by repeat (first | (with_reducible first | exact HB.out | apply below_alloc | apply pw_below_drewN | apply below_drew1) | exact HB.out)) hb);clear HB;have HB := n0_;clear n0_;(try clear hb);(try clear hb2);(try clear hk);(try clear hi)) | ((with_reducible refine gate_callee (f := 99) rfl ?_);refine goesL_ (some 17) rfl rfl Try.func99 (by kernel_rfl) rfl #[.slice A0 l0.length c0] rfl (by (try simp only [List.map_toArray,List.map_cons,List.map_nil]);first | done | rfl | (simp only [List.length_drop,List.length_take];rfl)) ?_;(with_reducible refine (leaf_Pair_99.calls _ _ l0 t611 _ ?side1 ?side2 A4.out).mono ?_);(case side1 => repeat (first | exact (Kd.C_below HR0.out HB.out) | (with_reducible refine Kd.C_alloc ?_ _) | (with_reducible refine Kd.C_drewN ?_ _) | (with_reducible refine Kd.C_drew ?_)));(case side2 => exact HC0.out);rintro e w15 ⟨v612,rfl,ho0,hb⟩;refine ⟨_,rfl,?_⟩;have n0_ := Aside0.mk (Kd.R_lower ho0 (below_size (by repeat (first | (with_reducible first | exact HB.out | apply below_alloc | apply pw_below_drewN | apply below_drew1) | exact HB.out))));have n1_ := Aside0.mk (below_step (by repeat (first | (with_reducible first | exact HB.out | apply below_alloc | apply pw_below_drewN | apply below_drew1) | exact HB.out)) hb);clear HB;have HO613 := n0_;have HB := n1_;clear n0_ n1_;(try clear hb);(try clear hb2);(try clear hk);(try clear hi);(try clear ho0)))
    go_ret3
    exact ⟨_,by first | rfl | (simp [errW_none,errW_some] <;> rfl) | (simp [*,errW_none,errW_some] <;> rfl),by (with_reducible repeat (first | apply Kd.R_alloc | apply Kd.R_drewN | apply Kd.R_drew));exact HO613.out,by repeat (first | (with_reducible first | exact HB.out | apply below_alloc | apply pw_below_drewN | apply below_drew1) | exact HB.out)⟩

def boscagelaw02_Cut.l0 : Nat → Int → List (S40) → List (S40) → Int → Int → Option ((List (S40)))
  | 0,_,_,_,_,_ => none
  | k + 1,x1,x5,x8,x9,x10 => if x10 < x9 then (if 0 ≤ x10 then (if x10 < (x8.length : Int) then (if ((rd_T40 x8 x10).f0) = x1 then (boscagelaw02_Cut.l0 k x1 x5 x8 x9 (wrap64 (x10 + 1))) else (if x5.length < 8796093022208 then (boscagelaw02_Cut.l0 k x1 (x5 ++ [(⟨(rd_T40 x8 x10).f0,(rd_T40 x8 x10).f1⟩ : S40)]) x8 x9 (wrap64 (x10 + 1))) else (none))) else (none)) else (none)) else (some x5)
def boscagelaw02_Cut.f (k : Nat) (l0 : List (S40)) (a1 : Int) : Option ((List (S40))) := boscagelaw02_Cut.l0 k a1 ([] : List (S40)) l0 (l0.length : Int) 0
set_option maxHeartbeats 8000000 in
set_option maxRecDepth 100000 in
theorem boscagelaw02_Cut.calls (k : Nat) (A0 : Option Addr) (c0 : Nat) (l0 : List (S40)) (a1 : Int) (r : List (S40)) (w : World) (hr0 : Kd.C k40 w A0 l0.length l0) (hc0 : l0.length ≤ c0) (h : boscagelaw02_Cut.f k l0 a1 = some r) :
    Calls Try.prog 67 #[.slice A0 l0.length c0,.int .i64 a1] w fun e w' => ∃ v0_ : Value,e = .returned (v0_) ∧ Kd.R k40 40 w' w.heap.size (fun _ => True) v0_ r ∧ Below w.heap.size w w' := by
  have hu40 := Try.underlying40
  have HR0 := Aside0.mk hr0
  have HC0 := Aside0.mk hc0
  clear hr0 hc0
  have HB := Aside0.mk (Below.refl w.heap.size w)
  have H : (boscagelaw02_Cut.l0 k a1 ([] : List (S40)) l0 (l0.length : Int) 0) = some r := h
  clear h
  have H' := Aside0.mk H
  clear H
  go_enter Try.func67,Try.ntmps67
  go_wp2
  go_loopg [5,10] k (fun kq v5 v10 w' => ∃ (x5_1 : List (S40)) (x10_1 : Int),v10 = .int .i64 x10_1 ∧ Aside0 (boscagelaw02_Cut.l0 kq a1 x5_1 l0 (l0.length : Int) x10_1 = some r) ∧ Aside0 (kq ≤ k) ∧ Aside0 (Kd.R k40 40 w' w.heap.size (fun _ => True) v5 x5_1) ∧ Aside0 (Below w.heap.size w w'))
  case atStart => exact ⟨(([] : List (S40))),(0),(by first | rfl | (simp;done) | (simp [*];done)),H',⟨Nat.le_refl _⟩,⟨by first | exact Kd.R_nil _ _ _ _ _ | exact Kd.N_nil _ _ _ _ _ | exact Kd.V_nil _ _ _ _ _ | exact Kd.Q_nil _ _ _ _ _ | exact Kd.S_nil _ _ _ _ _⟩,⟨by repeat (first | (with_reducible first | exact HB.out | apply below_alloc | apply pw_below_drewN | apply below_drew1) | exact HB.out)⟩⟩
  case round =>
    clear H'
    try clear p2
    obtain ⟨x5_1,x10_1,rfl,HA,HK1,HO_5,HB⟩ := hrel
    cases gk with
    | zero => exact absurd HA.out (by simp [boscagelaw02_Cut.l0])
    | succ k1 =>
      have H := HA.out
      clear HA
      simp only [boscagelaw02_Cut.l0] at H
      by_cases c3 : x10_1 < (l0.length : Int)
      · rw [if_pos c3] at H
        have c3b0 : decide (x10_1 < (l0.length : Int)) = true := decide_eq_true c3
        clear c3
        by_cases c4 : 0 ≤ x10_1
        · rw [if_pos c4] at H
          have c4b0 : decide (0 ≤ x10_1) = true := decide_eq_true c4
          clear c4
          by_cases c5 : x10_1 < (l0.length : Int)
          · rw [if_pos c5] at H
            have c5b0 : decide (x10_1 < (l0.length : Int)) = true := decide_eq_true c5
            clear c5
            by_cases c6 : ((rd_T40 l0 x10_1).f0) = a1
            · rw [if_pos c6] at H
              have c6b0 : (((rd_T40 l0 x10_1).f0) == a1) = true := beq_iff_eq.mpr c6
              have c6b1 : (((rd_T40 l0 x10_1).f0) != a1) = false := bne_eq_false_iff_eq.mpr c6
              clear c6
              have H' := Aside0.mk H
              clear H
              have p618 : 0 ≤ (x10_1 : Int) := of_decide_eq_true (by first | (with_reducible assumption) | assumption)
              have q618 : x10_1 < (l0.length : Int) := of_decide_eq_true (by first | (with_reducible assumption) | assumption)
              obtain ⟨ad618,e618,hx618_0,hx618_1⟩ := at_T40 HR0.out x10_1 p618 q618
              cases e618
              replace hx618_0 := (HB.out.cell (World.block_lt_of_cell? w _ hx618_0)).trans hx618_0
              replace hx618_1 := (HB.out.cell (World.block_lt_of_cell? w _ hx618_1)).trans hx618_1
              replace p618 := eq_true p618
              replace q618 := eq_true q618
              go_wp2_with (first | ((with_reducible refine gate_dst (N := 7) rfl ?_);refine box_event ?hg (N := 7) ?hd (cs := #[.int .i64 0,.int .i64 0]) (t := 40) ?hr ?_;(case hd => rfl);(case hg => rfl);(case hr => first | (go_simp;done) | (go_simp;rfl));intro gb619 hg w7 hbox hb;have n0_ := Aside0.mk (Kd.R_below (Kd.R_elderB (by (with_reducible repeat (first | apply Kd.R_alloc | apply Kd.R_drewN | apply Kd.R_drew));exact HO_5.out) gb619 (Nat.le_of_eq hg.symm)) hb);have n1_ := Aside0.mk (below_step (by repeat (first | (with_reducible first | exact HB.out | apply below_alloc | apply pw_below_drewN | apply below_drew1) | exact HB.out)) hb);have n2_ := Aside0.mk (hbox);have n3_ := Aside0.mk ((by rw [hg];exact (below_size (by repeat (first | (with_reducible first | exact HB.out | apply below_alloc | apply pw_below_drewN | apply below_drew1) | exact HB.out))) : w.heap.size ≤ gb619));have n4_ := Aside0.mk ((by rw [hg];exact (below_size (by repeat (first | (with_reducible first | exact HB.out | apply below_alloc | apply pw_below_drewN | apply below_drew1) | exact HB.out))) : w.heap.size ≤ gb619));clear HO_5;clear HB;have HO_5 := n0_;have HB := n1_;have BK619 := n2_;have GW619 := n3_;have GE619 := n4_;clear n0_ n1_ n2_ n3_ n4_;clear hb hbox hg;have hcz8_0 : w7.cell? ⟨gb619,0,none⟩ = some (.int .i64 0) := (blk_cell BK619.out 0).trans rfl;have hcz8_1 : w7.cell? ⟨gb619,1,none⟩ = some (.int .i64 0) := (blk_cell BK619.out 1).trans rfl;have hfz8_0 := blk_frozen BK619.out 0;have hfz8_1 := blk_frozen BK619.out 1))
              go_roundg k1
              case measure => have := HK1.out;omega
              case rel => exact ⟨(x5_1),(wrap64 (x10_1 + 1)),(by first | rfl | (simp;done) | (simp [*];done)),H',⟨by have := HK1.out;omega⟩,⟨by (with_reducible repeat (first | apply Kd.R_alloc | apply Kd.R_drewN | apply Kd.R_drew));exact Kd.R_mono (Kd.R_far (p := ⟨gb619,1,none⟩) (Kd.R_far (p := ⟨gb619,0,none⟩) (Kd.R_mono HO_5.out (fun k_ hk => (⟨hk,hk.2⟩ : _ ∧ k_ ≠ gb619))) (fun _ hk => hk.2) (.int .i64 ((rd_T40 l0 x10_1).f0))) (fun _ hk => hk.2) (.int .i64 ((rd_T40 l0 x10_1).f1))) (fun _ hk => trivial)⟩,⟨by repeat (first | (with_reducible first | exact HB.out | apply below_alloc | apply pw_below_drewN | apply below_drew1 | refine below_set ?_ GE619.out) | exact HB.out)⟩⟩
            · rw [if_neg c6] at H
              have c6b0 : (((rd_T40 l0 x10_1).f0) == a1) = false := beq_eq_false_iff_ne.mpr c6
              have c6b1 : (((rd_T40 l0 x10_1).f0) != a1) = true := bne_iff_ne.mpr c6
              by_cases c9 : x5_1.length < 8796093022208
              · rw [if_pos c9] at H
                have LMc9 := Aside0.mk c9
                clear c9
                obtain ⟨y620,hy620⟩ : ∃ y_ : List (S40),y_ = (x5_1 ++ [(⟨(rd_T40 l0 x10_1).f0,(rd_T40 l0 x10_1).f1⟩ : S40)]) := ⟨_,rfl⟩
                replace H : (boscagelaw02_Cut.l0 k1 a1 y620 l0 (l0.length : Int) (wrap64 (x10_1 + 1))) = some r := by first | (rw [hy620];with_reducible exact H) | (have H2_ := (Option.bind_some _ _).symm.trans H;rw [hy620];with_reducible exact H2_) | (have H2_ := (Option.bind_some _ _).symm.trans H;with_reducible exact H2_) | with_reducible exact H | (rw [hy620];exact H) | exact H
                have Ny620 := Aside0.mk hy620
                clear hy620
                have H' := Aside0.mk H
                clear H
                have p618 : 0 ≤ (x10_1 : Int) := of_decide_eq_true (by first | (with_reducible assumption) | assumption)
                have q618 : x10_1 < (l0.length : Int) := of_decide_eq_true (by first | (with_reducible assumption) | assumption)
                obtain ⟨ad618,e618,hx618_0,hx618_1⟩ := at_T40 HR0.out x10_1 p618 q618
                cases e618
                replace hx618_0 := (HB.out.cell (World.block_lt_of_cell? w _ hx618_0)).trans hx618_0
                replace hx618_1 := (HB.out.cell (World.block_lt_of_cell? w _ hx618_1)).trans hx618_1
                replace p618 := eq_true p618
                replace q618 := eq_true q618
                go_wp2_with (first | ((with_reducible refine gate_dst (N := 7) rfl ?_);refine box_event ?hg (N := 7) ?hd (cs := #[.int .i64 0,.int .i64 0]) (t := 40) ?hr ?_;(case hd => rfl);(case hg => rfl);(case hr => first | (go_simp;done) | (go_simp;rfl));intro gb619 hg w10 hbox hb;have n0_ := Aside0.mk (Kd.R_below (Kd.R_elderB (by (with_reducible repeat (first | apply Kd.R_alloc | apply Kd.R_drewN | apply Kd.R_drew));exact HO_5.out) gb619 (Nat.le_of_eq hg.symm)) hb);have n1_ := Aside0.mk (below_step (by repeat (first | (with_reducible first | exact HB.out | apply below_alloc | apply pw_below_drewN | apply below_drew1) | exact HB.out)) hb);have n2_ := Aside0.mk (hbox);have n3_ := Aside0.mk ((by rw [hg];exact (below_size (by repeat (first | (with_reducible first | exact HB.out | apply below_alloc | apply pw_below_drewN | apply below_drew1) | exact HB.out))) : w.heap.size ≤ gb619));have n4_ := Aside0.mk ((by rw [hg];exact (below_size (by repeat (first | (with_reducible first | exact HB.out | apply below_alloc | apply pw_below_drewN | apply below_drew1) | exact HB.out))) : w.heap.size ≤ gb619));clear HO_5;clear HB;have HO_5 := n0_;have HB := n1_;have BK619 := n2_;have GW619 := n3_;have GE619 := n4_;clear n0_ n1_ n2_ n3_ n4_;clear hb hbox hg;have hcz11_0 : w10.cell? ⟨gb619,0,none⟩ = some (.int .i64 0) := (blk_cell BK619.out 0).trans rfl;have hcz11_1 : w10.cell? ⟨gb619,1,none⟩ = some (.int .i64 0) := (blk_cell BK619.out 1).trans rfl;have hfz11_0 := blk_frozen BK619.out 0;have hfz11_1 := blk_frozen BK619.out 1) | ((with_reducible refine gate_builtin (b := .append) (xs := #[.tmp 18,.tmp 20]) rfl ?_);at_builtin;refine Kd.R_append k40 (w0 := w) w.heap.size rfl (.tmp 18) (.tmp 20) 34 40 (.agg #[(.int .i64 0),(.int .i64 0)]) 16 rfl Try.underlying34 info40 rfl (by decide) (by omega) u5 x5_1 (⟨(rd_T40 l0 x10_1).f0,(rd_T40 l0 x10_1).f1⟩ : S40) [.int .i64 ((rd_T40 l0 x10_1).f0),.int .i64 ((rd_T40 l0 x10_1).f1)] (fun k_ => k_ ≠ gb619) (fun _ => False) rfl (by first | (go_simp;done) | (go_simp;rfl)) ?aP (fun _ hk => hk.elim) ?aF ?aO ?aB ?aS ?aL ?_;(case aP => exact k40_mkM _ _ _ (⟨(rd_T40 l0 x10_1).f0,(rd_T40 l0 x10_1).f1⟩ : S40));(case aB => exact (by repeat (first | (with_reducible first | exact HB.out | apply below_alloc | apply pw_below_drewN | apply below_drew1 | refine below_set ?_ GE619.out) | exact HB.out)));(case aF => exact (fun k_ hk => Kd.freshB (g := gb619) (o := .cells #[.int .i64 ((rd_T40 l0 x10_1).f0),.int .i64 ((rd_T40 l0 x10_1).f1)] 40 (0,0)) (by (with_reducible repeat (first | refine blk_drewN ?_ _ | refine blk_drew ?_ | refine blk_alloc ?_ _));refine blk_put (cs := #[.int .i64 ((rd_T40 l0 x10_1).f0),.int .i64 0]) ?_ 1 _ rfl;(with_reducible repeat (first | refine blk_drewN ?_ _ | refine blk_drew ?_ | refine blk_alloc ?_ _));refine blk_put (cs := #[.int .i64 0,.int .i64 0]) ?_ 0 _ rfl;(with_reducible repeat (first | refine blk_drewN ?_ _ | refine blk_drew ?_ | refine blk_alloc ?_ _));exact BK619.out) k_ hk));(case aO => exact (by (with_reducible repeat (first | apply Kd.R_alloc | apply Kd.R_drewN | apply Kd.R_drew));exact Kd.R_mono (Kd.R_far (p := ⟨gb619,1,none⟩) (Kd.R_far (p := ⟨gb619,0,none⟩) (Kd.R_mono HO_5.out (fun k_ hk => (⟨hk,hk.2⟩ : _ ∧ k_ ≠ gb619))) (fun _ hk => hk.2) (.int .i64 ((rd_T40 l0 x10_1).f0))) (fun _ hk => hk.2) (.int .i64 ((rd_T40 l0 x10_1).f1))) (fun _ hk => hk.1.2)));(case aS => exact (below_size (by repeat (first | (with_reducible first | exact HB.out | apply below_alloc | apply pw_below_drewN | apply below_drew1 | refine below_set ?_ GE619.out) | exact HB.out))));(case aL => have := LMc9.out;omega);intro v621 w12 ho hb hg hat;rw [← Ny620.out] at ho;have n0_ := Aside0.mk (blk_grown (g := gb619) (o := .cells #[.int .i64 ((rd_T40 l0 x10_1).f0),.int .i64 ((rd_T40 l0 x10_1).f1)] 40 (0,0)) (by (with_reducible repeat (first | refine blk_drewN ?_ _ | refine blk_drew ?_ | refine blk_alloc ?_ _));refine blk_put (cs := #[.int .i64 ((rd_T40 l0 x10_1).f0),.int .i64 0]) ?_ 1 _ rfl;(with_reducible repeat (first | refine blk_drewN ?_ _ | refine blk_drew ?_ | refine blk_alloc ?_ _));refine blk_put (cs := #[.int .i64 0,.int .i64 0]) ?_ 0 _ rfl;(with_reducible repeat (first | refine blk_drewN ?_ _ | refine blk_drew ?_ | refine blk_alloc ?_ _));exact BK619.out) hg (Kd.R_away HO_5.out (fun _ hk => hk.2)));have n1_ := Aside0.mk (hb);have n2_ := Aside0.mk (ho);clear BK619;clear HB;clear HO_5;have BK619 := n0_;have HB := n1_;have HO622 := n2_;clear n0_ n1_ n2_;clear ho hb hg hat))
                go_roundg k1
                case measure => have := HK1.out;omega
                case rel => exact ⟨(y620),(wrap64 (x10_1 + 1)),(by first | rfl | (simp;done) | (simp [*];done)),H',⟨by have := HK1.out;omega⟩,⟨by (with_reducible repeat (first | apply Kd.R_alloc | apply Kd.R_drewN | apply Kd.R_drew));exact Kd.R_mono HO622.out (fun _ hk => trivial)⟩,⟨by repeat (first | (with_reducible first | exact HB.out | apply below_alloc | apply pw_below_drewN | apply below_drew1 | refine below_set ?_ GE619.out) | exact HB.out)⟩⟩
              · rw [if_neg c9] at H
                exact absurd H (by simp)
          · rw [if_neg c5] at H
            exact absurd H (by simp)
        · rw [if_neg c4] at H
          exact absurd H (by simp)
      · rw [if_neg c3] at H
        have c3b0 : decide (x10_1 < (l0.length : Int)) = false := decide_eq_false c3
        clear c3
        obtain rfl := Option.some.inj H
        go_wp2
        go_ret
        exact ⟨_,by first | rfl | (simp [errW_none,errW_some] <;> rfl) | (simp [*,errW_none,errW_some] <;> rfl),by (with_reducible repeat (first | apply Kd.R_alloc | apply Kd.R_drewN | apply Kd.R_drew));exact HO_5.out,by repeat (first | (with_reducible first | exact HB.out | apply below_alloc | apply pw_below_drewN | apply below_drew1) | exact HB.out)⟩

/-- With some elements put in ahead of element a1. -/
def leaf_Pair_109.f (l0 : List S40) (a1 : Int) (l2 : List S40) : Option (List S40) := if 0 ≤ a1 ∧ a1 ≤ (l0.length : Int) ∧ l0.length + l2.length < 8796093022208 then some (l0.take a1.toNat ++ l2 ++ l0.drop a1.toNat) else none
set_option maxHeartbeats 4000000 in
set_option maxRecDepth 100000 in
theorem leaf_Pair_109.shift (g n cap i : Nat) (cur : Array Value) (w : World) (hg : w.heap[g]? = some (.cells cur 40 (0,0))) (hsz : cur.size = ((cap) * 2)) (hm : cap ≤ 9223372036854775807) (h1c : ∀ u ∈ cur.toList.take ((n) * 2),u.oneCell' = true)
    (vb vo m vc : Nat) (vs : List Value) (hvl : vs.length = ((m) * 2)) (hvs : ∀ j u,vs[j]? = some u → w.cell? ⟨vb,vo + j,none⟩ = some u) (h1v : ∀ u ∈ vs,u.oneCell' = true) (hm0 : 0 < m) (hvb : vb ≠ g)
    (hi : i < n) (hroom : n + m ≤ cap) :
    Calls Try.prog 109 #[.slice (some ⟨g,0,none⟩) n cap,.int .i64 i,.slice (some ⟨vb,vo,none⟩) m vc] w fun e w' => e = .returned (.slice (some ⟨g,0,none⟩) (n + m) cap) ∧ w' = (w.drew.setCells g ((i + m) * 2) ((cur.toList.take ((n) * 2)).drop ((i) * 2))).setCells g ((i) * 2) vs := by
  obtain ⟨i0,hi0,_,hz1,_⟩ := info_parts info40
  have hz1' : ¬ ((m : Int) = 0) := by omega
  have hz2 : ¬ ((i : Int) = (n : Int)) := by omega
  obtain ⟨cs,hcs⟩ : ∃ cs,cs = (cur.toList.take ((n) * 2)).drop ((i) * 2) := ⟨_,rfl⟩
  have hcl : cs.length = ((n - i) * 2) := by rw [hcs];simp;omega
  have h1s : ∀ u ∈ cs,u.oneCell' = true := fun u hu => h1c u (List.mem_of_mem_drop (hcs ▸ hu))
  rw [← hcs]
  have hv0 : ∃ u,vs[0]? = some u := ⟨_,List.getElem?_eq_getElem (by omega)⟩
  obtain ⟨u0,hu0⟩ := hv0
  have hc0 := hvs 0 u0 hu0
  obtain ⟨cA,tA,fA,hA,hA0⟩ : ∃ cA tA fA,w.heap[vb]? = some (.cells cA tA fA) ∧ cA.size ≠ 0 := by
    unfold World.cell? at hc0
    split at hc0
    · rename_i c t f h
      refine ⟨c,t,f,h,?_⟩
      simp at hc0
      intro h0
      rw [Array.getElem?_eq_none (by omega)] at hc0
      cases hc0
    · cases hc0
  have hov : ∀ lb cb,(callFunc 125 #[.slice (some ⟨vb,vo,none⟩) m vc,.slice (some ⟨g,((i + m) * 2),none⟩) lb cb]).run Try.prog w = .ok (.value (.bool false)) w := fun lb cb => by
    rw [run_callFunc_extern Try.func125 (by kernel_rfl) (by kernel_rfl) (by kernel_rfl) (e := Extern.SlicesOverlaps.overlaps #[33,33] #[4]) (by kernel_rfl),
      run_overlaps_x w 33 4 40 Try.underlying33 2 Try.sizeOf40 ⟨vb,vo,none⟩ ⟨g,((i + m) * 2),none⟩ m vc lb cb hvb tA 40 cA.size cur.size (by simp [World.shape?,hA]) (by simp [World.shape?,hg]) (by omega) hA0 (fun k => cells_free hg k) rfl]
    rfl
  have hcp1 : ∀ ty dc sc,(Builtin.copy_ #[34,34] ty #[.slice (some ⟨g,((i + m) * 2),none⟩) (n + m - (i + m)) dc,.slice (some ⟨g,((i) * 2),none⟩) (n + m - i) sc]).run Try.prog w.drew = .ok (goInt (n - i : Nat)) (w.drew.setCells g ((i + m) * 2) cs) := fun ty dc sc => by
    have hmin : Nat.min (n + m - i) (n + m - (i + m)) = n - i := by simp only [Nat.min_def];split <;> omega
    have := run_copy_K (P := Try.prog) w.drew 34 34 ty 40 i0 g ((i + m) * 2) (n + m - (i + m)) dc ⟨g,((i) * 2),none⟩ (n + m - i) sc cs Try.underlying34 hi0 (by rw [hmin,hcl,hz1] <;> omega)
      (fun j u hj => by
        rw [add_lit']
        show w.cell? _ = _
        rw [cells_cell hg]
        rw [hcs,List.getElem?_drop,List.getElem?_take] at hj
        split at hj
        · exact hj
        · cases hj)
      (fun j hj => cells_some (w := w) hg (by rw [hcl] at hj;omega)) (fun j _ => cells_free (w := w) hg _) h1s
    rw [hmin] at this
    exact this
  obtain ⟨W1,hW1⟩ : ∃ W1,W1 = w.drew.setCells g ((i + m) * 2) cs := ⟨_,rfl⟩
  obtain ⟨cur1,g1,g2,_⟩ := setCells_heap_at g cs ((i + m) * 2) w.drew cur 40 (0,0) hg (by rw [hcl,hsz];omega)
  have gv : W1.heap[vb]? = w.heap[vb]? := by rw [hW1];exact setCells_heap_ne g cs _ w.drew vb hvb
  rw [← hW1] at g1
  have hcp2 : ∀ (W : World),(∀ x,W.cell? x = W1.cell? x) → (∀ x,W.frozen? x = W1.frozen? x) → ∀ ty dc,(Builtin.copy_ #[34,33] ty #[.slice (some ⟨g,((i) * 2),none⟩) (n + m - i) dc,.slice (some ⟨vb,vo,none⟩) m vc]).run Try.prog W = .ok (goInt (m : Nat)) (W.setCells g ((i) * 2) vs) := fun W hWc hWf ty dc => by
    have hmin : Nat.min m (n + m - i) = m := by simp only [Nat.min_def];split <;> omega
    have := run_copy_K (P := Try.prog) W 34 33 ty 40 i0 g ((i) * 2) (n + m - i) dc ⟨vb,vo,none⟩ m vc vs Try.underlying34 hi0 (by rw [hmin,hvl,hz1] <;> omega)
      (fun j u hj => by
        rw [add_lit',hWc]
        have := hvs j u hj
        simp only [World.cell?] at this ⊢
        rw [gv]
        exact this)
      (fun j hj => by rw [hWc];exact cells_some g1 (by rw [hvl] at hj;omega)) (fun j _ => by rw [hWf];exact cells_free g1 _) h1v
    rw [hmin] at this
    exact this
  rw [← hW1] at hcp1
  have hw1 : IntKind.i64.wrap ((i : Int) + (m : Int)) = (i : Int) + (m : Int) := by rw [IntKind.wrap_i64];omega
  have hb1 : (0 : Int) ≤ (i : Int) + (m : Int) := by omega
  have hin : i ≤ n := by omega
  have htn : ((i : Int) + (m : Int)).toNat = i + m := by omega
  have hb2 : ¬ (cap = i + m) := by omega
  have hb3 : (i : Int) ≤ (n : Int) + (m : Int) := by omega
  have hb4 : ¬ (cap = i) := by omega
  have HW := Lib.hid hW1
  rw [← hW1]
  clear hW1 hcs hcl h1s hu0 hc0 hA hA0 g1 g2 gv hg hsz h1c hvl hvs h1v hvb
  go_enter Try.func109,Try.ntmps109
  go_wp2_with (simp only [hov])
  go_region_law (refine stepx_copy rfl _ _ 34 34 rfl _ _ (by simp [Act.eval,Act.put]) (by simp [Act.eval,Act.put]) (hcp1 _ _ _) ?_)
  go_wp2_with (at_builtin;refine wpx_copy _ rfl _ _ 34 33 rfl _ _ rfl rfl (hcp2 _ (fun _ => rfl) (fun _ => rfl) _ _) ?_)
  go_ret
  exact ⟨rfl,rfl⟩
set_option maxHeartbeats 4000000 in
set_option maxRecDepth 100000 in
theorem leaf_Pair_109.grow (g n cap i : Nat) (cur : Array Value) (w : World) (hg : w.heap[g]? = some (.cells cur 40 (0,0))) (hsz : cur.size = ((cap) * 2)) (hn : n ≤ cap) (h1c : ∀ u ∈ cur.toList.take ((n) * 2),u.oneCell' = true)
    (vb vo m vc : Nat) (vs : List Value) (hvl : vs.length = ((m) * 2)) (hvs : ∀ j u,vs[j]? = some u → w.cell? ⟨vb,vo + j,none⟩ = some u) (h1v : ∀ u ∈ vs,u.oneCell' = true) (hm0 : 0 < m)
    (hi : i < n) (hroom : cap < n + m) (hbig : (n + m) * 16 ≤ 140737488355328) :
    Calls Try.prog 109 #[.slice (some ⟨g,0,none⟩) n cap,.int .i64 i,.slice (some ⟨vb,vo,none⟩) m vc] w fun e w' => ∃ (G : Nat) (ROW : Array Value),n + m ≤ G ∧ G ≤ maxLen ∧ ROW.size = ((G) * 2) ∧ ROW.toList.take ((i) * 2) = (cur.toList.take ((n) * 2)).take ((i) * 2) ∧ e = .returned (.slice (some ⟨w.heap.size,0,none⟩) (n + m) G) ∧ w' = ((w.drew.alloc (.cells ROW 40)).setCells w.heap.size ((i) * 2) vs).drew.setCells w.heap.size ((i + m) * 2) ((cur.toList.take ((n) * 2)).drop ((i) * 2)) := by
  obtain ⟨i0,hi0,hz0,hz1,hzb⟩ := info_parts info40
  have hz1' : ¬ ((m : Int) = 0) := by omega
  have hz2 : ¬ ((i : Int) = (n : Int)) := by omega
  have hz3 : (cap : Int) < (n : Int) + (m : Int) := by omega
  have hgw : g < w.heap.size := (Array.getElem?_eq_some_iff.1 hg).1
  have hvw : vb < w.heap.size := World.block_lt_of_cell? w _ (hvs 0 _ (List.getElem?_eq_getElem (by omega)))
  obtain ⟨cs,hcs⟩ : ∃ cs,cs = cur.toList.take ((n) * 2) := ⟨_,rfl⟩
  have hcl : cs.length = ((n) * 2) := by rw [hcs];simp;omega
  have hcc : ∀ j u,cs[j]? = some u → w.cell? ⟨g,j,none⟩ = some u := fun j u hj => by
    rw [cells_cell hg]
    rw [hcs,List.getElem?_take] at hj
    split at hj
    · exact hj
    · cases hj
  rw [← hcs] at h1c ⊢
  have hkk : (n : Int) + (m : Int) - (i : Int) = ((n + m - i : Nat) : Int) := by omega
  have hik : i + (n + m - i) = n + m := by omega
  have hold : (Builtin.firstCells i0.size i (.slice (some ⟨g,0,none⟩) i cap)).run Try.prog w.drew = .ok (cs.take ((i) * 2)).toArray w.drew := by
    rw [hz1]
    exact run_firstCells_some w.drew 2 i ⟨g,0,none⟩ i cap (cs.take ((i) * 2)) (by rw [List.length_take];omega) (fun j v hj => by
      rw [add_lit',Nat.zero_add]
      rw [List.getElem?_take] at hj
      split at hj
      · exact hcc j v hj
      · cases hj)
  have hG63 : grownCap w (n + m) cap 40 ≤ maxLen := grownCap_le_maxLen w (n + m) cap 40 (by unfold maxLen;omega)
  have hrz : ∀ ty,(Builtin.append_ #[34,3] ty #[.slice (some ⟨g,0,none⟩) i cap,.int .i64 ((n : Int) + (m : Int) - (i : Int))]).run Try.prog w =
      .ok (.slice (some ⟨w.heap.size,0,none⟩) (n + m) (grownCap w (n + m) cap 40)) (w.drew.alloc (.cells ((cs.take ((i) * 2)).toArray ++ Builtin.zeroCells (Value.agg #[.int .i64 0,.int .i64 0]).cells (n + m - i) ++ Builtin.zeroCells (Value.agg #[.int .i64 0,.int .i64 0]).cells (grownCap w (n + m) cap 40 - (n + m))) 40)) := fun ty => by
    have h := Lib.run_append_grow_zeros w 34 3 ty 40 i0 _ .i64 .i64 Try.underlying34 Try.underlying3 hi0 hz0 (some ⟨g,0,none⟩) i cap (cs.take ((i) * 2)) hold (n + m - i) (by omega) (by omega) (by omega) (by omega) (by rw [hzb];omega) (by rw [hzb,hik];exact growslice_fits hroom hbig)
    rw [hik] at h
    rw [hkk]
    exact h
  have hGn : n + m ≤ grownCap w (n + m) cap 40 := grownCap_ge w _ _ _
  generalize grownCap w (n + m) cap 40 = G at hrz hG63 hGn
  have hG63' : G ≤ 9223372036854775807 := by unfold maxLen at hG63;omega
  obtain ⟨ROW,hROW⟩ : ∃ ROW : Array Value,ROW = (cs.take ((i) * 2)).toArray ++ Builtin.zeroCells (Value.agg #[.int .i64 0,.int .i64 0]).cells (n + m - i) ++ Builtin.zeroCells (Value.agg #[.int .i64 0,.int .i64 0]).cells (G - (n + m)) := ⟨_,rfl⟩
  rw [← hROW] at hrz
  have hRs : ROW.size = ((G) * 2) := by
    rw [hROW]
    simp [Builtin.zeroCells,Value.cells,hcl]
    omega
  have hRt : ROW.toList.take ((i) * 2) = cs.take ((i) * 2) := by
    rw [hROW]
    simp only [Array.toList_append,List.append_assoc]
    exact List.take_left' (by rw [List.length_take,hcl];omega)
  obtain ⟨W1,hW1⟩ : ∃ W1,W1 = w.drew.alloc (.cells ROW 40) := ⟨_,rfl⟩
  have hN : ∀ j,j < ((n + m) * 2) → (W1.cell? ⟨w.heap.size,j,none⟩).isSome = true := fun j hj => by
    rw [hW1,World.cell?_alloc_at (w := w.drew) ROW _ w.heap.size j rfl,Array.getElem?_eq_getElem (by rw [hRs];omega)];rfl
  have hNf : ∀ j,W1.frozen? ⟨w.heap.size,j,none⟩ = false := fun j => by rw [hW1];exact World.frozen?_alloc_at (w := w.drew) ROW _ w.heap.size j rfl
  have hOb : ∀ j v,w.cell? ⟨g,j,none⟩ = some v → W1.cell? ⟨g,j,none⟩ = some v := fun j v h => by rw [hW1,World.cell?_alloc_past (w := w.drew) _ g j hgw];exact h
  have hOv : ∀ j v,w.cell? ⟨vb,j,none⟩ = some v → W1.cell? ⟨vb,j,none⟩ = some v := fun j v h => by rw [hW1,World.cell?_alloc_past (w := w.drew) _ vb j hvw];exact h
  have hcpA : ∀ (W : World),(∀ x,W.cell? x = W1.cell? x) → (∀ x,W.frozen? x = W1.frozen? x) → ∀ ty dc,(Builtin.copy_ #[34,33] ty #[.slice (some ⟨w.heap.size,((i) * 2),none⟩) (n + m - i) dc,.slice (some ⟨vb,vo,none⟩) m vc]).run Try.prog W = .ok (goInt (m : Nat)) (W.setCells w.heap.size ((i) * 2) vs) := fun W hWc hWf ty dc => by
    have hmin : Nat.min m (n + m - i) = m := by simp only [Nat.min_def];split <;> omega
    have := run_copy_K (P := Try.prog) W 34 33 ty 40 i0 w.heap.size ((i) * 2) (n + m - i) dc ⟨vb,vo,none⟩ m vc vs Try.underlying34 hi0 (by rw [hmin,hvl,hz1] <;> omega)
      (fun j v hj => by rw [add_lit',hWc];exact hOv _ v (hvs j v hj))
      (fun j hj => by rw [hWc];exact hN _ (by omega)) (fun j hj => by rw [hWf];exact hNf _) h1v
    rw [hmin] at this
    exact this
  have hGi : ¬ (G = i) := by omega
  have hGim : ¬ (G = i + m) := by omega
  have hci : ¬ (cap = i) := by omega
  have hgN : g ≠ w.heap.size := by omega
  have hdl : (cs.drop ((i) * 2)).length = ((n - i) * 2) := by rw [List.length_drop,hcl] <;> omega
  have hout : ∀ k,((W1.setCells w.heap.size ((i) * 2) vs).cell? ⟨g,k,none⟩) = W1.cell? ⟨g,k,none⟩ := fun k => World.cell?_setCells_out _ _ _ _ _ (fun h _ => absurd h hgN)
  obtain ⟨cur1,g1,g2,_⟩ := setCells_heap_at w.heap.size vs ((i) * 2) W1 ROW 40 (0,0) (by rw [hW1];exact heap_alloc_new w.drew _) (by rw [hvl,hRs] <;> omega)
  have hcpB : ∀ (W : World),(∀ x,W.cell? x = (W1.setCells w.heap.size ((i) * 2) vs).cell? x) → (∀ x,W.frozen? x = (W1.setCells w.heap.size ((i) * 2) vs).frozen? x) → ∀ ty dc sc,(Builtin.copy_ #[34,34] ty #[.slice (some ⟨w.heap.size,((i + m) * 2),none⟩) (n + m - (i + m)) dc,.slice (some ⟨g,((i) * 2),none⟩) (n - i) sc]).run Try.prog W = .ok (goInt (n - i : Nat)) (W.setCells w.heap.size ((i + m) * 2) (cs.drop ((i) * 2))) := fun W hWc hWf ty dc sc => by
    have hmin : Nat.min (n - i) (n + m - (i + m)) = n - i := by simp only [Nat.min_def];split <;> omega
    have := run_copy_K (P := Try.prog) W 34 34 ty 40 i0 w.heap.size ((i + m) * 2) (n + m - (i + m)) dc ⟨g,((i) * 2),none⟩ (n - i) sc (cs.drop ((i) * 2)) Try.underlying34 hi0 (by rw [hmin,hdl,hz1] <;> omega)
      (fun j v hj => by
        rw [add_lit',hWc,hout]
        exact hOb _ v (hcc _ v (by rwa [List.getElem?_drop] at hj)))
      (fun j hj => by rw [hWc];exact cells_some g1 (by rw [hdl] at hj;rw [g2,hRs] <;> omega))
      (fun j hj => by rw [hWf];exact cells_free g1 _) (fun v hv => h1c v (List.mem_of_mem_drop hv))
    rw [hmin] at this
    exact this
  subst hW1
  have hE1 : ∀ x,((w.alloc (.cells ROW 40)).drew).cell? x = (w.drew.alloc (.cells ROW 40)).cell? x := fun x => rfl
  have hE2 : ∀ x,((w.alloc (.cells ROW 40)).drew).frozen? x = (w.drew.alloc (.cells ROW 40)).frozen? x := fun x => rfl
  have hF1 : ∀ x,(((w.alloc (.cells ROW 40)).drew.setCells w.heap.size ((i) * 2) vs).drew).cell? x = ((w.drew.alloc (.cells ROW 40)).setCells w.heap.size ((i) * 2) vs).cell? x := fun x => rfl
  have hF2 : ∀ x,(((w.alloc (.cells ROW 40)).drew.setCells w.heap.size ((i) * 2) vs).drew).frozen? x = ((w.drew.alloc (.cells ROW 40)).setCells w.heap.size ((i) * 2) vs).frozen? x := fun x => rfl
  have hw1 : IntKind.i64.wrap ((i : Int) + (m : Int)) = (i : Int) + (m : Int) := by rw [IntKind.wrap_i64];omega
  have hb1 : (0 : Int) ≤ (i : Int) + (m : Int) := by omega
  have hin : i ≤ n := by omega
  have htn : ((i : Int) + (m : Int)).toNat = i + m := by omega
  have hb3 : (i : Int) ≤ (n : Int) := by omega
  obtain ⟨Fin,hFin⟩ : ∃ Fin : Ending → World → Prop,Fin = fun e w' => ∃ (G : Nat) (ROW : Array Value),n + m ≤ G ∧ G ≤ maxLen ∧ ROW.size = ((G) * 2) ∧ ROW.toList.take ((i) * 2) = cs.take ((i) * 2) ∧ e = .returned (.slice (some ⟨w.heap.size,0,none⟩) (n + m) G) ∧ w' = ((w.drew.alloc (.cells ROW 40)).setCells w.heap.size ((i) * 2) vs).drew.setCells w.heap.size ((i + m) * 2) (cs.drop ((i) * 2)) := ⟨_,rfl⟩
  have hdone : Hid (Fin (.returned (.slice (some ⟨w.heap.size,0,none⟩) (n + m) G)) (((w.drew.alloc (.cells ROW 40)).setCells w.heap.size ((i) * 2) vs).drew.setCells w.heap.size ((i + m) * 2) (cs.drop ((i) * 2)))) := Lib.hid (by rw [hFin];exact ⟨G,ROW,hGn,hG63,hRs,hRt,rfl,rfl⟩)
  rw [← hFin]
  clear hkk hik hold hROW hRs hRt hFin hN hNf hOb hOv hout g1 g2 hcl hcc hcs hdl hvs hvl hsz hg h1c h1v hG63
  go_enter Try.func109,Try.ntmps109
  go_wp2_with (first
    | (at_builtin;refine Lib.wpList_append_run _ rfl _ _ _ _ rfl _ _ rfl rfl _ _ (hrz _) ?_)
    | (at_builtin;refine wpx_copy _ rfl _ _ 34 33 rfl _ _ rfl rfl (hcpA _ hE1 hE2 _ _) ?_)
    | (at_builtin;refine wpx_copy _ rfl _ _ 34 34 rfl _ _ rfl rfl (hcpB _ (fun _ => rfl) (fun _ => rfl) _ _ _) ?_))
  go_region_law (refine stepx_copy rfl _ _ 34 34 rfl (.slice (some ⟨w.heap.size,((i + m) * 2),none⟩) (n + m - (i + m)) (G - (i + m))) (.slice (some ⟨g,((i) * 2),none⟩) (n - i) (cap - i)) (by simp [Act.eval,Act.put]) (by simp [Act.eval,Act.put]) (hcpB _ hF1 hF2 3 (G - (i + m)) (cap - i)) ?_)
  go_wp2
  exact hdone.out
set_option maxHeartbeats 2000000 in
set_option maxRecDepth 100000 in
theorem leaf_Pair_109.nothing_ (v : Value) (n i : Nat) (A2 : Option Addr) (c2 : Nat) (w : World) (hv : (v = .slice none 0 0 ∧ n = 0) ∨ ∃ g cap,v = .slice (some ⟨g,0,none⟩) n cap ∧ n ≤ cap ∧ cap ≤ 9223372036854775807) (hi : i ≤ n) :
    Calls Try.prog 109 #[v,.int .i64 i,.slice A2 0 c2] w fun e w' => e = .returned v ∧ w = w' := by
  rcases hv with ⟨rfl,rfl⟩ | ⟨g,cap,rfl,hn,hm⟩
  · obtain rfl : i = 0 := by omega
    go_enter Try.func109,Try.ntmps109
    go_wp2
    go_ret
    exact ⟨rfl,rfl⟩
  · have hic : i ≤ cap := by omega
    go_enter Try.func109,Try.ntmps109
    go_wp2
    all_goals (go_ret;exact ⟨rfl,rfl⟩)
set_option maxHeartbeats 2000000 in
set_option maxRecDepth 100000 in
theorem leaf_Pair_109.end_ (v v' : Value) (n m : Nat) (A2 : Option Addr) (c2 : Nat) (w w1 : World) (hv : (v = .slice none 0 0 ∧ n = 0) ∨ ∃ g cap,v = .slice (some ⟨g,0,none⟩) n cap ∧ n ≤ cap ∧ cap ≤ 9223372036854775807) (hm0 : 0 < m)
    (hr : (Builtin.append_ #[34,33] 34 #[v,.slice A2 m c2]).run Try.prog w = .ok v' w1) :
    Calls Try.prog 109 #[v,.int .i64 n,.slice A2 m c2] w fun e w' => e = .returned v' ∧ w' = w1 := by
  have hz1' : ¬ ((m : Int) = 0) := by omega
  have HR := Lib.hid hr
  clear hr
  rcases hv with ⟨rfl,rfl⟩ | ⟨g,cap,rfl,hn,hm⟩
  · go_enter Try.func109,Try.ntmps109
    go_wp2_with (at_builtin;refine Lib.wpList_append_run _ rfl _ _ _ _ rfl _ _ rfl rfl _ _ HR.out ?_)
    go_ret
    exact ⟨rfl,rfl⟩
  · go_enter Try.func109,Try.ntmps109
    go_wp2_with (at_builtin;refine Lib.wpList_append_run _ rfl _ _ _ _ rfl _ _ rfl rfl _ _ HR.out ?_)
    all_goals (go_ret;exact ⟨rfl,rfl⟩)
set_option maxHeartbeats 1000000 in
theorem leaf_Pair_109.calls (P0_ : Nat → Prop) (u9000_ : Value) (l0 : List S40) (a1 : Int) (A2 : Option Addr) (c2 : Nat) (l2 : List S40) (r : List S40) (w0 w : World) (hB : Below w0.heap.size w0 w) (ho0 : Kd.R k40 40 w w0.heap.size P0_ u9000_ l0) (hr2 : ∀ W_,Kept w W_ (fun k_ => P0_ k_) → Kd.C k40 W_ A2 l2.length l2) (hc2 : l2.length ≤ c2) (h : leaf_Pair_109.f l0 a1 l2 = some r) :
    Calls Try.prog 109 #[u9000_,.int .i64 a1,.slice A2 l2.length c2] w fun e w' => ∃ v0_ : Value,e = .returned v0_ ∧ Kd.R k40 40 w' w0.heap.size (fun k_ => (P0_ k_ ∨ w.heap.size ≤ k_)) v0_ r ∧ Below w0.heap.size w0 w' ∧ Kept w w' (fun k_ => P0_ k_) := by
  unfold leaf_Pair_109.f at h
  split at h
  · rename_i hc
    obtain ⟨h0,h1,h2⟩ := hc
    obtain rfl := Option.some.inj h
    clear h
    obtain ⟨i,rfl⟩ := Int.eq_ofNat_of_zero_le h0
    rw [Int.toNat_natCast]
    have hil : i ≤ l0.length := by omega
    clear h0 h1
    obtain ⟨hok,hown⟩ := (R_iff flat40).1 ho0
    have hown' : w.ownsRow w0.heap.size 40 2 u9000_ l0.length (l0.flatMap enc40) := hown
    have hform : (u9000_ = .slice none 0 0 ∧ l0.length = 0) ∨ ∃ g cap,u9000_ = .slice (some ⟨g,0,none⟩) l0.length cap ∧ l0.length ≤ cap ∧ cap ≤ 9223372036854775807 := by
      rcases hown'.2 with ⟨h1,h2⟩ | ⟨g,cap,cur,h1,_,_,h2,h3,_⟩
      · exact .inl ⟨h1,h2⟩
      · exact .inr ⟨g,cap,h1,h2,by simpa [maxLen] using h3⟩
    rcases List.eq_nil_or_concat l2 with he | ⟨_,_,he⟩
    · subst he
      refine (leaf_Pair_109.nothing_ u9000_ l0.length i A2 c2 w hform hil).mono ?_
      rintro e w' ⟨rfl,rfl⟩
      refine ⟨_,rfl,?_,hB,Kept.refl _ _⟩
      rw [List.append_nil,List.take_append_drop]
      exact Kd.R_mono ho0 (fun _ hk => .inl hk)
    · have hne : l2 ≠ [] := by rw [he];simp
      clear he
      have hm0 : 0 < l2.length := List.length_pos_iff.2 hne
      have hlv : (l2.flatMap enc40).length = l2.length * 2 := flatMap_length flat40 l2
      obtain ⟨vb,vo,rfl,hvs⟩ : ∃ b o,A2 = some ⟨b,o,none⟩ ∧ ∀ j u,(l2.flatMap enc40)[j]? = some u → w.cell? ⟨b,o + j,none⟩ = some u := by
        rcases C_at flat40 (hr2 w (Kept.refl _ _)) with h0 | h0
        · rw [h0] at hlv;simp at hlv;omega
        · exact h0
      by_cases hin : i = l0.length
      · subst hin
        obtain ⟨i0,hi0,hz0,hz1,hzb⟩ := info_parts info40
        obtain ⟨v',w1,hr,ho1,hg1,hb1⟩ := run_append_own_x w 34 33 34 40 i0 _ 2 16 Try.underlying34 Try.underlying33 hi0 hz0 hz1 hzb rfl (by decide) (by decide) w0.heap.size u9000_ l0.length (l0.flatMap enc40) hown' ⟨vb,vo,none⟩ l2.length c2 (l2.flatMap enc40) hlv (fun j u hj => by rw [add_lit'];exact hvs j u hj) (Flat.ones flat40 l2) (by omega) hB.size
        refine (leaf_Pair_109.end_ u9000_ v' l0.length l2.length _ c2 w w1 hform hm0 hr).mono ?_
        rintro e w' ⟨rfl,rfl⟩
        refine ⟨_,rfl,?_,hB.grown hg1 hB.size (own_base hown'),Kept.of_grown hg1 (Kept.refl _ _) (fun k hk => .inl (hok k hk))⟩
        rw [List.take_length,List.drop_length,List.append_nil]
        refine (R_iff flat40).2 ⟨fun k hk => ?_,by rw [List.length_append,List.flatMap_append];exact ho1⟩
        rcases hb1 with hb1 | ⟨b,hb1,hb2⟩
        · exact .inl (hok k (hb1 ▸ hk))
        · rw [hb1] at hk
          obtain rfl := Option.some.inj hk
          exact .inr hb2
      · have hi : i < l0.length := by omega
        rcases hown'.2 with ⟨_,h0⟩ | ⟨g,cap,cur,rfl,hb,hg,hn,hm,hs,ht⟩
        · omega
        · have hP : P0_ g := hok g rfl
          have hm' : cap ≤ 9223372036854775807 := by simpa [maxLen] using hm
          have hvb : vb ≠ g := apart_of_kept flat40 hP hne hr2
          have hl0 : (l0.flatMap enc40).length = l0.length * 2 := flatMap_length flat40 l0
          have hones : ∀ u ∈ cur.toList.take (l0.length * 2),u.oneCell' = true := by rw [ht];exact Flat.ones flat40 l0
          have hcl : cur.toList.length = cap * 2 := by rw [Array.length_toList];exact hs
          have hlr : (l0.take i ++ l2 ++ l0.drop i).length = l0.length + l2.length := by simp;omega
          have e1 : (l0.flatMap enc40).drop (i * 2) = (l0.drop i).flatMap enc40 := flatMap_drop flat40 l0 i
          have e2 : (l0.flatMap enc40).take (i * 2) = (l0.take i).flatMap enc40 := flatMap_take flat40 l0 i
          have l1 : ((l0.take i).flatMap enc40).length = i * 2 := by
            have : ((l0.take i).flatMap enc40).length = (l0.take i).length * 2 := flatMap_length flat40 _
            rw [this,List.length_take,Nat.min_eq_left hil]
          have l3 : ((l0.drop i).flatMap enc40).length = (l0.length - i) * 2 := by
            have : ((l0.drop i).flatMap enc40).length = (l0.drop i).length * 2 := flatMap_length flat40 _
            rw [this,List.length_drop]
          by_cases hroom : l0.length + l2.length ≤ cap
          · have hlow : Calls Try.prog 109 #[.slice (some ⟨g,0,none⟩) l0.length cap,.int .i64 i,.slice (some ⟨vb,vo,none⟩) l2.length c2] w fun e w' => e = .returned (.slice (some ⟨g,0,none⟩) (l0.length + l2.length) cap) ∧ w' = (w.drew.setCells g ((i + l2.length) * 2) ((cur.toList.take (l0.length * 2)).drop (i * 2))).setCells g (i * 2) (l2.flatMap enc40) := by
              have hs' := hs
              have hlv' := hlv
              (try simp only [Nat.mul_one] at hones hs' hlv' ⊢)
              exact leaf_Pair_109.shift g l0.length cap i cur w hg hs' hm' hones vb vo l2.length c2 (l2.flatMap enc40) hlv' hvs (Flat.ones flat40 l2) hm0 hvb hi hroom
            refine hlow.mono ?_
            rintro e w' ⟨rfl,rfl⟩
            rw [ht,e1]
            obtain ⟨cur1,g1,g2,g3⟩ := setCells_heap_at g ((l0.drop i).flatMap enc40) ((i + l2.length) * 2) w.drew cur 40 (0,0) hg (by rw [l3,hs];omega)
            obtain ⟨cur2,k1,k2,k3⟩ := setCells_heap_at g (l2.flatMap enc40) (i * 2) _ cur1 40 (0,0) g1 (by rw [hlv,g2,hs];omega)
            have hcells : cur2.toList.take ((l0.length + l2.length) * 2) = (l0.take i ++ l2 ++ l0.drop i).flatMap enc40 := by
              have c1 : cur1.toList.take (i * 2) = (l0.take i).flatMap enc40 := by
                rw [g3,List.append_assoc,List.take_append_of_le_length (by rw [List.length_take,hcl];omega),List.take_take,Nat.min_eq_left (by omega),← e2,← ht,List.take_take,Nat.min_eq_left (by omega)]
              have c2 : (cur1.toList.drop (i * 2 + (l2.flatMap enc40).length)).take ((l0.length - i) * 2) = (l0.drop i).flatMap enc40 := by
                rw [hlv,show i * 2 + l2.length * 2 = (i + l2.length) * 2 by omega,g3,List.append_assoc,List.drop_left' (by rw [List.length_take,hcl];omega)]
                exact List.take_left' l3
              rw [k3,c1,List.flatMap_append,List.flatMap_append,List.take_append,List.take_of_length_le (by rw [List.length_append,l1,hlv];omega),List.length_append,l1,hlv]
              congr 1
              rw [show (l0.length + l2.length) * 2 - (i * 2 + l2.length * 2) = (l0.length - i) * 2 by omega,← hlv]
              exact c2
            refine ⟨_,rfl,(R_iff flat40).2 ⟨fun k hk => ?_,by rw [flatMap_length flat40],.inr ⟨g,cap,cur2,by rw [hlr],hb,k1,by rw [hlr];omega,hm,by rw [k2,g2];exact hs,by rw [hlr];exact hcells⟩⟩,?_,?_⟩
            · have : g = k := by simpa [Value.ownBlock] using hk
              subst this
              exact .inl hP
            · exact bel_setCells (bel_setCells (below_drew1 hB) hb _ _) hb _ _
            · exact kep_setCells (kep_setCells (Kept.drew (Kept.refl w _)) hP _ _) hP _ _
          · have hlow : Calls Try.prog 109 #[.slice (some ⟨g,0,none⟩) l0.length cap,.int .i64 i,.slice (some ⟨vb,vo,none⟩) l2.length c2] w fun e w' => ∃ (G : Nat) (ROW : Array Value),l0.length + l2.length ≤ G ∧ G ≤ maxLen ∧ ROW.size = G * 2 ∧ ROW.toList.take (i * 2) = (cur.toList.take (l0.length * 2)).take (i * 2) ∧ e = .returned (.slice (some ⟨w.heap.size,0,none⟩) (l0.length + l2.length) G) ∧ w' = ((w.drew.alloc (.cells ROW 40)).setCells w.heap.size (i * 2) (l2.flatMap enc40)).drew.setCells w.heap.size ((i + l2.length) * 2) ((cur.toList.take (l0.length * 2)).drop (i * 2)) := by
              have hs' := hs
              have hlv' := hlv
              (try simp only [Nat.mul_one] at hones hs' hlv' ⊢)
              exact leaf_Pair_109.grow g l0.length cap i cur w hg hs' hn hones vb vo l2.length c2 (l2.flatMap enc40) hlv' hvs (Flat.ones flat40 l2) hm0 hi (by omega) (by omega)
            refine hlow.mono ?_
            rintro e w' ⟨G,ROW,q1,q2,q3,q4,rfl,rfl⟩
            rw [ht,e2] at q4
            rw [ht,e1]
            obtain ⟨cur1,g1,g2,g3⟩ := setCells_heap_at w.heap.size (l2.flatMap enc40) (i * 2) (w.drew.alloc (.cells ROW 40)) ROW 40 (0,0) (heap_alloc_new w.drew _) (by rw [hlv,q3];omega)
            obtain ⟨cur2,k1,k2,k3⟩ := setCells_heap_at w.heap.size ((l0.drop i).flatMap enc40) ((i + l2.length) * 2) (World.setCells (w.drew.alloc (.cells ROW 40)) w.heap.size (i * 2) (l2.flatMap enc40)).drew cur1 40 (0,0) g1 (by rw [l3,g2,q3];omega)
            have hcells : cur2.toList.take ((l0.length + l2.length) * 2) = (l0.take i ++ l2 ++ l0.drop i).flatMap enc40 := by
              have c1 : cur1.toList.take ((i + l2.length) * 2) = (l0.take i).flatMap enc40 ++ l2.flatMap enc40 := by
                rw [g3,q4]
                exact List.take_left' (by rw [List.length_append,l1,hlv];omega)
              rw [k3,c1,List.flatMap_append,List.flatMap_append]
              exact List.take_left' (by rw [List.length_append,List.length_append,l1,hlv,l3];omega)
            have hbN : Below w0.heap.size w0 (w.drew.alloc (.cells ROW 40)) := below_alloc (below_drew1 hB) _
            have hkN : Kept w (w.drew.alloc (.cells ROW 40)) (fun k_ => P0_ k_ ∨ w.heap.size ≤ k_) := Kept.alloc (Kept.drew (Kept.refl w _)) _
            refine ⟨_,rfl,(R_iff flat40).2 ⟨fun k hk => ?_,by rw [flatMap_length flat40],.inr ⟨w.heap.size,G,cur2,by rw [hlr],hB.size,k1,by rw [hlr];omega,q2,by rw [k2,g2];exact q3,by rw [hlr];exact hcells⟩⟩,?_,?_⟩
            · have : w.heap.size = k := by simpa [Value.ownBlock] using hk
              subst this
              exact .inr (Nat.le_refl _)
            · exact bel_setCells (below_drew1 (bel_setCells hbN hB.size _ _)) hB.size _ _
            · have hk2 := kep_setCells (Kept.drew (kep_setCells hkN (b := w.heap.size) (.inr (Nat.le_refl _)) (i * 2) (l2.flatMap enc40))) (b := w.heap.size) (.inr (Nat.le_refl _)) ((i + l2.length) * 2) ((l0.drop i).flatMap enc40)
              exact ⟨hk2.1,fun k hk hn => hk2.2 k hk (fun h => h.elim hn (fun h => by omega))⟩
  · cases h

end Go.Proofs.Ytkoiffkonjpoiaa.Q
namespace Go.Proofs.Ytkoiffkonjpoiaa.Q
open Go.RowKit Go.Proofs.YtkoiffkonjpoiaaW.PrintWords Go.Proofs.YtkoiffkonjpoiaaW.PrintLast Go.Proofs.YtkoiffkonjpoiaaW.PrintMore Go.Proofs.YtkoiffkonjpoiaaX
attribute [local go_sem] max2_int min2_int max_two min_two max_three min_three max_four min_four   -- for this text's walks alone
set_option linter.unusedVariables false
set_option linter.unusedSimpArgs false

attribute [local go_sem high] eqA40
def leaf_Leaf_Put.f (l0 : List (S40)) (a1 : Int) (a2 : Int) : Option ((List (S40)) × Int × Bool) := (leaf_Leaf_find.f l0 a1).bind fun bt638 => ((leaf_Pair_99.f l0).bind fun t640 => (if bt638.2 = true then (if 0 ≤ bt638.1 then (if bt638.1 < (t640.length : Int) then (if bt638.1 < (l0.length : Int) then (some ((t640.set (bt638.1 : Int).toNat (⟨(rd_T40 t640 bt638.1).f0,a2⟩ : S40)),(rd_T40 l0 bt638.1).f1,true)) else (none)) else (none)) else (none)) else ((leaf_Pair_109.f t640 bt638.1 (([(⟨a1,a2⟩ : S40)] : List (S40)))).bind fun t648 => (some (t648,0,false)))))
set_option maxHeartbeats 8000000 in
set_option maxRecDepth 100000 in
theorem leaf_Leaf_Put.calls (A0 : Option Addr) (c0 : Nat) (l0 : List (S40)) (a1 : Int) (a2 : Int) (r1 : List (S40)) (r2 : Int) (r3 : Bool) (w : World) (hr0 : Kd.C k40 w A0 l0.length l0) (hc0 : l0.length ≤ c0) (h : leaf_Leaf_Put.f l0 a1 a2 = some (r1,r2,r3)) :
    Calls Try.prog 68 #[.slice A0 l0.length c0,.int .i64 a1,.int .i64 a2] w fun e w' => ∃ v0_ : Value,e = .returned (.tuple #[v0_,.int .i64 r2,.bool r3]) ∧ Kd.R k40 40 w' w.heap.size (fun _ => True) v0_ r1 ∧ Below w.heap.size w w' := by
  have hu40 := Try.underlying40
  have HR0 := Aside0.mk hr0
  have HC0 := Aside0.mk hc0
  clear hr0 hc0
  have HB := Aside0.mk (Below.refl w.heap.size w)
  have H : ((leaf_Leaf_find.f l0 a1).bind fun bt638 => ((leaf_Pair_99.f l0).bind fun t640 => (if bt638.2 = true then (if 0 ≤ bt638.1 then (if bt638.1 < (t640.length : Int) then (if bt638.1 < (l0.length : Int) then (some ((t640.set (bt638.1 : Int).toNat (⟨(rd_T40 t640 bt638.1).f0,a2⟩ : S40)),(rd_T40 l0 bt638.1).f1,true)) else (none)) else (none)) else (none)) else ((leaf_Pair_109.f t640 bt638.1 (([(⟨a1,a2⟩ : S40)] : List (S40)))).bind fun t648 => (some (t648,0,false)))))) = some (r1,r2,r3) := h
  clear h
  replace H := Option.bind_eq_some_iff.mp H
  obtain ⟨⟨t638,t639⟩,A40,H⟩ := H
  replace H : ((leaf_Pair_99.f l0).bind fun t640 => (if t639 = true then (if 0 ≤ t638 then (if t638 < (t640.length : Int) then (if t638 < (l0.length : Int) then (some ((t640.set (t638 : Int).toNat (⟨(rd_T40 t640 t638).f0,a2⟩ : S40)),(rd_T40 l0 t638).f1,true)) else (none)) else (none)) else (none)) else ((leaf_Pair_109.f t640 t638 (([(⟨a1,a2⟩ : S40)] : List (S40)))).bind fun t648 => (some (t648,0,false))))) = some (r1,r2,r3) := H
  have A4 := Aside0.mk A40
  clear A40
  replace H := Option.bind_eq_some_iff.mp H
  obtain ⟨t640,A50,H⟩ := H
  replace H : (if t639 = true then (if 0 ≤ t638 then (if t638 < (t640.length : Int) then (if t638 < (l0.length : Int) then (some ((t640.set (t638 : Int).toNat (⟨(rd_T40 t640 t638).f0,a2⟩ : S40)),(rd_T40 l0 t638).f1,true)) else (none)) else (none)) else (none)) else ((leaf_Pair_109.f t640 t638 (([(⟨a1,a2⟩ : S40)] : List (S40)))).bind fun t648 => (some (t648,0,false)))) = some (r1,r2,r3) := H
  have A5 := Aside0.mk A50
  clear A50
  by_cases c6 : t639 = true
  · subst c6
    have H1 : (if 0 ≤ t638 then (if t638 < (t640.length : Int) then (if t638 < (l0.length : Int) then (some ((t640.set (t638 : Int).toNat (⟨(rd_T40 t640 t638).f0,a2⟩ : S40)),(rd_T40 l0 t638).f1,true)) else (none)) else (none)) else (none)) = some (r1,r2,r3) := by rw [if_pos rfl] at H;exact H
    clear H
    have H := H1
    clear H1
    by_cases c7 : 0 ≤ t638
    · rw [if_pos c7] at H
      have c7b0 : decide (0 ≤ t638) = true := decide_eq_true c7
      clear c7
      by_cases c8 : t638 < (t640.length : Int)
      · rw [if_pos c8] at H
        have c8b0 : decide (t638 < (t640.length : Int)) = true := decide_eq_true c8
        clear c8
        obtain ⟨y643,hy643⟩ : ∃ y_ : List (S40),y_ = (t640.set (t638 : Int).toNat (⟨(rd_T40 t640 t638).f0,a2⟩ : S40)) := ⟨_,rfl⟩
        replace H : (if t638 < (l0.length : Int) then (some (y643,(rd_T40 l0 t638).f1,true)) else (none)) = some (r1,r2,r3) := by first | (rw [hy643];with_reducible exact H) | (have H2_ := (Option.bind_some _ _).symm.trans H;rw [hy643];with_reducible exact H2_) | (have H2_ := (Option.bind_some _ _).symm.trans H;with_reducible exact H2_) | with_reducible exact H | (rw [hy643];exact H) | exact H
        have Ny643 := Aside0.mk hy643
        clear hy643
        by_cases c10 : t638 < (l0.length : Int)
        · rw [if_pos c10] at H
          have c10b0 : decide (t638 < (l0.length : Int)) = true := decide_eq_true c10
          clear c10
          simp only [Option.some.injEq,Prod.mk.injEq] at H
          obtain ⟨rfl,rfl,rfl⟩ := H
          go_enter Try.func68,Try.ntmps68
          go_wp2_with (first | (go_at_call 98;(with_reducible refine (leaf_Leaf_find.calls _ _ l0 a1 t638 true _ ?side1 ?side2 A4.out).mono ?_);(case side1 => repeat (first | exact HR0.out | (with_reducible refine Kd.C_alloc ?_ _) | (with_reducible refine Kd.C_drewN ?_ _) | (with_reducible refine Kd.C_drew ?_)));(case side2 => exact HC0.out);rintro e w11 ⟨rfl,hb⟩;have n0_ := Aside0.mk (below_step (by repeat (first | (with_reducible first | exact HB.out | apply below_alloc | apply pw_below_drewN | apply below_drew1) | exact HB.out)) hb);clear HB;have HB := n0_;clear n0_;(try clear hb);(try clear hb2);(try clear hk);(try clear hi)) | (go_at_call 99;(with_reducible refine (leaf_Pair_99.calls _ _ l0 t640 _ ?side1 ?side2 A5.out).mono ?_);(case side1 => repeat (first | exact (Kd.C_below HR0.out HB.out) | (with_reducible refine Kd.C_alloc ?_ _) | (with_reducible refine Kd.C_drewN ?_ _) | (with_reducible refine Kd.C_drew ?_)));(case side2 => exact HC0.out);rintro e w12 ⟨v641,rfl,ho0,hb⟩;have n0_ := Aside0.mk (Kd.R_lower ho0 (below_size (by repeat (first | (with_reducible first | exact HB.out | apply below_alloc | apply pw_below_drewN | apply below_drew1) | exact HB.out))));have n1_ := Aside0.mk (below_step (by repeat (first | (with_reducible first | exact HB.out | apply below_alloc | apply pw_below_drewN | apply below_drew1) | exact HB.out)) hb);clear HB;have HO642 := n0_;have HB := n1_;clear n0_ n1_;(try clear hb);(try clear hb2);(try clear hk);(try clear hi);(try clear ho0);have p9 : 0 ≤ (t638 : Int) := of_decide_eq_true (by first | (with_reducible assumption) | assumption);have q9 : (t638 : Int) < ((t640.length : Int) : Int) := of_decide_eq_true (by first | (with_reducible assumption) | assumption);obtain ⟨go9,co9,eo9,gb9,gl9,cl9,HG9⟩ := Kd.R_form HO642.out (by omega);(first | cases eo9 | (injection eo9 with ea_ en_ ec_;(first | subst ea_ | (injection ea_ with ea_;subst ea_));subst ec_;clear en_));have GB9 := Aside0.mk gb9;have GG9 := Aside0.mk HG9;clear gb9 gl9 HG9;obtain ⟨ce9,hcl9,hM9,hcc9,hfr9⟩ := Kd.R_elem HO642.out z40 (t638 : Int) p9 q9;obtain rfl := k40_openM hM9;have hx9_0 : w12.cell? ⟨go9,(t638 : Int).toNat * 2,none⟩ = some (.int .i64 ((rd_T40 t640 t638).f0)) := hcc9 0 _ rfl;have hx9_1 : w12.cell? ⟨go9,(t638 : Int).toNat * 2 + 1,none⟩ = some (.int .i64 ((rd_T40 t640 t638).f1)) := hcc9 1 _ rfl;have hf9_0 : w12.frozen? ⟨go9,(t638 : Int).toNat * 2,none⟩ = false := hfr9 0;have hf9_1 : w12.frozen? ⟨go9,(t638 : Int).toNat * 2 + 1,none⟩ = false := hfr9 1;clear hcl9 hcc9 hfr9 hM9;replace p9 := eq_true p9;replace q9 := eq_true q9;have HX13 := Aside0.mk (show Kd.R k40 40 w12 w.heap.size (fun _ => True) (.slice (some ⟨go9,0,none⟩) t640.length co9) t640 from (by (with_reducible repeat (first | apply Kd.R_alloc | apply Kd.R_drewN | apply Kd.R_drew));exact HO642.out));obtain ⟨ce13,hcl13,hM13,hcc13,hfr13⟩ := Kd.R_elem HX13.out z40 (t638 : Int) (of_decide_eq_true (by first | (with_reducible assumption) | assumption)) (by have h_ : (t638 : Int) < ((t640.length : Int) : Int) := of_decide_eq_true (by first | (with_reducible assumption) | assumption);first | exact h_ | (have e_ := (Kd.R_reads' HO642.out).1;omega) | simpa using h_);obtain rfl := k40_openM hM13;have HP13 := Kd.R_seg HX13.out (t638 : Int) (of_decide_eq_true (by first | (with_reducible assumption) | assumption)) (by have h_ : (t638 : Int) < ((t640.length : Int) : Int) := of_decide_eq_true (by first | (with_reducible assumption) | assumption);first | exact h_ | (have e_ := (Kd.R_reads' HO642.out).1;omega) | simpa using h_) (seg := [.int .i64 a2]) (j := 1) hcl13 hcc13 (show 2 ≤ 2 from by decide) (x' := (⟨(rd_T40 t640 t638).f0,a2⟩ : S40)) (k40_mkM _ _ _ (⟨(rd_T40 t640 t638).f0,a2⟩ : S40) ) (fun _ hk => hk);have hx13_1 := hcc13 1 _ rfl;(try simp only [show (k40).sz = 2 from rfl,Nat.mul_one,Nat.add_zero] at hx13_1);have hf13_1 := hfr13 1;(try simp only [show (k40).sz = 2 from rfl,Nat.mul_one,Nat.add_zero] at hf13_1);clear hcl13 hcc13 hfr13 hM13) | ((with_reducible refine gate_store (t := 2) (p := 25) rfl ?_);(try (rw [drewN_self w12];generalize hq_ : World.drewN w12 _ = w12;have n0_ := Aside0.mk (Kd.R_at hq_ HO642.out);have n1_ := Aside0.mk (below_at hq_ HB.out);clear hq_ HO642 HB;have HO642 := n0_;have HB := n1_;clear n0_ n1_;(try (have HX13 := Aside0.mk (show Kd.R k40 40 w12 w.heap.size (fun _ => True) (.slice (some ⟨go9,0,none⟩) t640.length co9) t640 from (by (with_reducible repeat (first | apply Kd.R_alloc | apply Kd.R_drewN | apply Kd.R_drew));exact HO642.out))));(try (obtain ⟨ce13,hcl13,hM13,hcc13,hfr13⟩ := Kd.R_elem HX13.out z40 (t638 : Int) (of_decide_eq_true (by first | (with_reducible assumption) | assumption)) (by have h_ : (t638 : Int) < ((t640.length : Int) : Int) := of_decide_eq_true (by first | (with_reducible assumption) | assumption);first | exact h_ | (have e_ := (Kd.R_reads' HO642.out).1;omega) | simpa using h_)));(try (obtain rfl := k40_openM hM13));(try (have HP13 := Kd.R_seg HX13.out (t638 : Int) (of_decide_eq_true (by first | (with_reducible assumption) | assumption)) (by have h_ : (t638 : Int) < ((t640.length : Int) : Int) := of_decide_eq_true (by first | (with_reducible assumption) | assumption);first | exact h_ | (have e_ := (Kd.R_reads' HO642.out).1;omega) | simpa using h_) (seg := [.int .i64 a2]) (j := 1) hcl13 hcc13 (show 2 ≤ 2 from by decide) (x' := (⟨(rd_T40 t640 t638).f0,a2⟩ : S40)) (k40_mkM _ _ _ (⟨(rd_T40 t640 t638).f0,a2⟩ : S40) ) (fun _ hk => hk)));(try (have hx13_1 := hcc13 1 _ rfl));(try (try simp only [show (k40).sz = 2 from rfl,Nat.mul_one,Nat.add_zero] at hx13_1));(try (have hf13_1 := hfr13 1));(try (try simp only [show (k40).sz = 2 from rfl,Nat.mul_one,Nat.add_zero] at hf13_1));(try (clear hcl13 hcc13 hfr13 hM13))));refine store_event (t := 2) (p := 25) (v := ?vo_w14) (w1 := (w12.setCell ⟨go9,(t638 : Int).toNat * 2 + 1,none⟩ (.int .i64 a2))) ?hg ?ho ?hn ?hr ?_;(case ho => rfl);(case hg => rfl);(case hn => rfl);(case hr => first | (go_simp;done) | (go_simp;rfl));intro w14 hw;have hg : w12.grownBy w14 (some go9) := (by rw [hw];exact HP13.2);have hp_ : Kd.R k40 40 w14 w.heap.size (fun _ => True) (.slice (some ⟨go9,0,none⟩) t640.length co9) y643 := (by rw [hw,Ny643.out];exact HP13.1);clear HP13;have n0_ := Aside0.mk (hp_);have n1_ := Aside0.mk ((by rw [hw];exact below_set (HB.out) GB9.out : Below w.heap.size w w14));clear HO642;clear HB;have HO642 := n0_;have HB := n1_;clear n0_ n1_;clear hg hw hp_;have p644 : 0 ≤ (t638 : Int) := of_decide_eq_true (by first | (with_reducible assumption) | assumption);have q644 : t638 < (l0.length : Int) := of_decide_eq_true (by first | (with_reducible assumption) | assumption);obtain ⟨ad644,e644,hx644_0,hx644_1⟩ := at_T40 HR0.out t638 p644 q644;cases e644;replace hx644_0 := (HB.out.cell (World.block_lt_of_cell? w _ hx644_0)).trans hx644_0;replace hx644_1 := (HB.out.cell (World.block_lt_of_cell? w _ hx644_1)).trans hx644_1;replace p644 := eq_true p644;replace q644 := eq_true q644))
          repeat (go_quiet (first | (go_at_call 98;(with_reducible refine (leaf_Leaf_find.calls _ _ l0 a1 t638 true _ ?side1 ?side2 A4.out).mono ?_);(case side1 => repeat (first | exact HR0.out | (with_reducible refine Kd.C_alloc ?_ _) | (with_reducible refine Kd.C_drewN ?_ _) | (with_reducible refine Kd.C_drew ?_)));(case side2 => exact HC0.out);rintro e w11 ⟨rfl,hb⟩;have n0_ := Aside0.mk (below_step (by repeat (first | (with_reducible first | exact HB.out | apply below_alloc | apply pw_below_drewN | apply below_drew1) | exact HB.out)) hb);clear HB;have HB := n0_;clear n0_;(try clear hb);(try clear hb2);(try clear hk);(try clear hi)) | (go_at_call 99;(with_reducible refine (leaf_Pair_99.calls _ _ l0 t640 _ ?side1 ?side2 A5.out).mono ?_);(case side1 => repeat (first | exact (Kd.C_below HR0.out HB.out) | (with_reducible refine Kd.C_alloc ?_ _) | (with_reducible refine Kd.C_drewN ?_ _) | (with_reducible refine Kd.C_drew ?_)));(case side2 => exact HC0.out);rintro e w12 ⟨v641,rfl,ho0,hb⟩;have n0_ := Aside0.mk (Kd.R_lower ho0 (below_size (by repeat (first | (with_reducible first | exact HB.out | apply below_alloc | apply pw_below_drewN | apply below_drew1) | exact HB.out))));have n1_ := Aside0.mk (below_step (by repeat (first | (with_reducible first | exact HB.out | apply below_alloc | apply pw_below_drewN | apply below_drew1) | exact HB.out)) hb);clear HB;have HO642 := n0_;have HB := n1_;clear n0_ n1_;(try clear hb);(try clear hb2);(try clear hk);(try clear hi);(try clear ho0);have p9 : 0 ≤ (t638 : Int) := of_decide_eq_true (by first | (with_reducible assumption) | assumption);have q9 : (t638 : Int) < ((t640.length : Int) : Int) := of_decide_eq_true (by first | (with_reducible assumption) | assumption);obtain ⟨go9,co9,eo9,gb9,gl9,cl9,HG9⟩ := Kd.R_form HO642.out (by omega);(first | cases eo9 | (injection eo9 with ea_ en_ ec_;(first | subst ea_ | (injection ea_ with ea_;subst ea_));subst ec_;clear en_));have GB9 := Aside0.mk gb9;have GG9 := Aside0.mk HG9;clear gb9 gl9 HG9;obtain ⟨ce9,hcl9,hM9,hcc9,hfr9⟩ := Kd.R_elem HO642.out z40 (t638 : Int) p9 q9;obtain rfl := k40_openM hM9;have hx9_0 : w12.cell? ⟨go9,(t638 : Int).toNat * 2,none⟩ = some (.int .i64 ((rd_T40 t640 t638).f0)) := hcc9 0 _ rfl;have hx9_1 : w12.cell? ⟨go9,(t638 : Int).toNat * 2 + 1,none⟩ = some (.int .i64 ((rd_T40 t640 t638).f1)) := hcc9 1 _ rfl;have hf9_0 : w12.frozen? ⟨go9,(t638 : Int).toNat * 2,none⟩ = false := hfr9 0;have hf9_1 : w12.frozen? ⟨go9,(t638 : Int).toNat * 2 + 1,none⟩ = false := hfr9 1;clear hcl9 hcc9 hfr9 hM9;replace p9 := eq_true p9;replace q9 := eq_true q9;have HX13 := Aside0.mk (show Kd.R k40 40 w12 w.heap.size (fun _ => True) (.slice (some ⟨go9,0,none⟩) t640.length co9) t640 from (by (with_reducible repeat (first | apply Kd.R_alloc | apply Kd.R_drewN | apply Kd.R_drew));exact HO642.out));obtain ⟨ce13,hcl13,hM13,hcc13,hfr13⟩ := Kd.R_elem HX13.out z40 (t638 : Int) (of_decide_eq_true (by first | (with_reducible assumption) | assumption)) (by have h_ : (t638 : Int) < ((t640.length : Int) : Int) := of_decide_eq_true (by first | (with_reducible assumption) | assumption);first | exact h_ | (have e_ := (Kd.R_reads' HO642.out).1;omega) | simpa using h_);obtain rfl := k40_openM hM13;have HP13 := Kd.R_seg HX13.out (t638 : Int) (of_decide_eq_true (by first | (with_reducible assumption) | assumption)) (by have h_ : (t638 : Int) < ((t640.length : Int) : Int) := of_decide_eq_true (by first | (with_reducible assumption) | assumption);first | exact h_ | (have e_ := (Kd.R_reads' HO642.out).1;omega) | simpa using h_) (seg := [.int .i64 a2]) (j := 1) hcl13 hcc13 (show 2 ≤ 2 from by decide) (x' := (⟨(rd_T40 t640 t638).f0,a2⟩ : S40)) (k40_mkM _ _ _ (⟨(rd_T40 t640 t638).f0,a2⟩ : S40) ) (fun _ hk => hk);have hx13_1 := hcc13 1 _ rfl;(try simp only [show (k40).sz = 2 from rfl,Nat.mul_one,Nat.add_zero] at hx13_1);have hf13_1 := hfr13 1;(try simp only [show (k40).sz = 2 from rfl,Nat.mul_one,Nat.add_zero] at hf13_1);clear hcl13 hcc13 hfr13 hM13) | ((with_reducible refine gate_store (t := 2) (p := 25) rfl ?_);(try (rw [drewN_self w12];generalize hq_ : World.drewN w12 _ = w12;have n0_ := Aside0.mk (Kd.R_at hq_ HO642.out);have n1_ := Aside0.mk (below_at hq_ HB.out);clear hq_ HO642 HB;have HO642 := n0_;have HB := n1_;clear n0_ n1_;(try (have HX13 := Aside0.mk (show Kd.R k40 40 w12 w.heap.size (fun _ => True) (.slice (some ⟨go9,0,none⟩) t640.length co9) t640 from (by (with_reducible repeat (first | apply Kd.R_alloc | apply Kd.R_drewN | apply Kd.R_drew));exact HO642.out))));(try (obtain ⟨ce13,hcl13,hM13,hcc13,hfr13⟩ := Kd.R_elem HX13.out z40 (t638 : Int) (of_decide_eq_true (by first | (with_reducible assumption) | assumption)) (by have h_ : (t638 : Int) < ((t640.length : Int) : Int) := of_decide_eq_true (by first | (with_reducible assumption) | assumption);first | exact h_ | (have e_ := (Kd.R_reads' HO642.out).1;omega) | simpa using h_)));(try (obtain rfl := k40_openM hM13));(try (have HP13 := Kd.R_seg HX13.out (t638 : Int) (of_decide_eq_true (by first | (with_reducible assumption) | assumption)) (by have h_ : (t638 : Int) < ((t640.length : Int) : Int) := of_decide_eq_true (by first | (with_reducible assumption) | assumption);first | exact h_ | (have e_ := (Kd.R_reads' HO642.out).1;omega) | simpa using h_) (seg := [.int .i64 a2]) (j := 1) hcl13 hcc13 (show 2 ≤ 2 from by decide) (x' := (⟨(rd_T40 t640 t638).f0,a2⟩ : S40)) (k40_mkM _ _ _ (⟨(rd_T40 t640 t638).f0,a2⟩ : S40) ) (fun _ hk => hk)));(try (have hx13_1 := hcc13 1 _ rfl));(try (try simp only [show (k40).sz = 2 from rfl,Nat.mul_one,Nat.add_zero] at hx13_1));(try (have hf13_1 := hfr13 1));(try (try simp only [show (k40).sz = 2 from rfl,Nat.mul_one,Nat.add_zero] at hf13_1));(try (clear hcl13 hcc13 hfr13 hM13))));refine store_event (t := 2) (p := 25) (v := ?vo_w14) (w1 := (w12.setCell ⟨go9,(t638 : Int).toNat * 2 + 1,none⟩ (.int .i64 a2))) ?hg ?ho ?hn ?hr ?_;(case ho => rfl);(case hg => rfl);(case hn => rfl);(case hr => first | (go_simp;done) | (go_simp;rfl));intro w14 hw;have hg : w12.grownBy w14 (some go9) := (by rw [hw];exact HP13.2);have hp_ : Kd.R k40 40 w14 w.heap.size (fun _ => True) (.slice (some ⟨go9,0,none⟩) t640.length co9) y643 := (by rw [hw,Ny643.out];exact HP13.1);clear HP13;have n0_ := Aside0.mk (hp_);have n1_ := Aside0.mk ((by rw [hw];exact below_set (HB.out) GB9.out : Below w.heap.size w w14));clear HO642;clear HB;have HO642 := n0_;have HB := n1_;clear n0_ n1_;clear hg hw hp_;have p644 : 0 ≤ (t638 : Int) := of_decide_eq_true (by first | (with_reducible assumption) | assumption);have q644 : t638 < (l0.length : Int) := of_decide_eq_true (by first | (with_reducible assumption) | assumption);obtain ⟨ad644,e644,hx644_0,hx644_1⟩ := at_T40 HR0.out t638 p644 q644;cases e644;replace hx644_0 := (HB.out.cell (World.block_lt_of_cell? w _ hx644_0)).trans hx644_0;replace hx644_1 := (HB.out.cell (World.block_lt_of_cell? w _ hx644_1)).trans hx644_1;replace p644 := eq_true p644;replace q644 := eq_true q644));try go_wp2_with (first | (go_at_call 98;(with_reducible refine (leaf_Leaf_find.calls _ _ l0 a1 t638 true _ ?side1 ?side2 A4.out).mono ?_);(case side1 => repeat (first | exact HR0.out | (with_reducible refine Kd.C_alloc ?_ _) | (with_reducible refine Kd.C_drewN ?_ _) | (with_reducible refine Kd.C_drew ?_)));(case side2 => exact HC0.out);rintro e w11 ⟨rfl,hb⟩;have n0_ := Aside0.mk (below_step (by repeat (first | (with_reducible first | exact HB.out | apply below_alloc | apply pw_below_drewN | apply below_drew1) | exact HB.out)) hb);clear HB;have HB := n0_;clear n0_;(try clear hb);(try clear hb2);(try clear hk);(try clear hi)) | (go_at_call 99;(with_reducible refine (leaf_Pair_99.calls _ _ l0 t640 _ ?side1 ?side2 A5.out).mono ?_);(case side1 => repeat (first | exact (Kd.C_below HR0.out HB.out) | (with_reducible refine Kd.C_alloc ?_ _) | (with_reducible refine Kd.C_drewN ?_ _) | (with_reducible refine Kd.C_drew ?_)));(case side2 => exact HC0.out);rintro e w12 ⟨v641,rfl,ho0,hb⟩;have n0_ := Aside0.mk (Kd.R_lower ho0 (below_size (by repeat (first | (with_reducible first | exact HB.out | apply below_alloc | apply pw_below_drewN | apply below_drew1) | exact HB.out))));have n1_ := Aside0.mk (below_step (by repeat (first | (with_reducible first | exact HB.out | apply below_alloc | apply pw_below_drewN | apply below_drew1) | exact HB.out)) hb);clear HB;have HO642 := n0_;have HB := n1_;clear n0_ n1_;(try clear hb);(try clear hb2);(try clear hk);(try clear hi);(try clear ho0);have p9 : 0 ≤ (t638 : Int) := of_decide_eq_true (by first | (with_reducible assumption) | assumption);have q9 : (t638 : Int) < ((t640.length : Int) : Int) := of_decide_eq_true (by first | (with_reducible assumption) | assumption);obtain ⟨go9,co9,eo9,gb9,gl9,cl9,HG9⟩ := Kd.R_form HO642.out (by omega);(first | cases eo9 | (injection eo9 with ea_ en_ ec_;(first | subst ea_ | (injection ea_ with ea_;subst ea_));subst ec_;clear en_));have GB9 := Aside0.mk gb9;have GG9 := Aside0.mk HG9;clear gb9 gl9 HG9;obtain ⟨ce9,hcl9,hM9,hcc9,hfr9⟩ := Kd.R_elem HO642.out z40 (t638 : Int) p9 q9;obtain rfl := k40_openM hM9;have hx9_0 : w12.cell? ⟨go9,(t638 : Int).toNat * 2,none⟩ = some (.int .i64 ((rd_T40 t640 t638).f0)) := hcc9 0 _ rfl;have hx9_1 : w12.cell? ⟨go9,(t638 : Int).toNat * 2 + 1,none⟩ = some (.int .i64 ((rd_T40 t640 t638).f1)) := hcc9 1 _ rfl;have hf9_0 : w12.frozen? ⟨go9,(t638 : Int).toNat * 2,none⟩ = false := hfr9 0;have hf9_1 : w12.frozen? ⟨go9,(t638 : Int).toNat * 2 + 1,none⟩ = false := hfr9 1;clear hcl9 hcc9 hfr9 hM9;replace p9 := eq_true p9;replace q9 := eq_true q9;have HX13 := Aside0.mk (show Kd.R k40 40 w12 w.heap.size (fun _ => True) (.slice (some ⟨go9,0,none⟩) t640.length co9) t640 from (by (with_reducible repeat (first | apply Kd.R_alloc | apply Kd.R_drewN | apply Kd.R_drew));exact HO642.out));obtain ⟨ce13,hcl13,hM13,hcc13,hfr13⟩ := Kd.R_elem HX13.out z40 (t638 : Int) (of_decide_eq_true (by first | (with_reducible assumption) | assumption)) (by have h_ : (t638 : Int) < ((t640.length : Int) : Int) := of_decide_eq_true (by first | (with_reducible assumption) | assumption);first | exact h_ | (have e_ := (Kd.R_reads' HO642.out).1;omega) | simpa using h_);obtain rfl := k40_openM hM13;have HP13 := Kd.R_seg HX13.out (t638 : Int) (of_decide_eq_true (by first | (with_reducible assumption) | assumption)) (by have h_ : (t638 : Int) < ((t640.length : Int) : Int) := of_decide_eq_true (by first | (with_reducible assumption) | assumption);first | exact h_ | (have e_ := (Kd.R_reads' HO642.out).1;omega) | simpa using h_) (seg := [.int .i64 a2]) (j := 1) hcl13 hcc13 (show 2 ≤ 2 from by decide) (x' := (⟨(rd_T40 t640 t638).f0,a2⟩ : S40)) (k40_mkM _ _ _ (⟨(rd_T40 t640 t638).f0,a2⟩ : S40) ) (fun _ hk => hk);have hx13_1 := hcc13 1 _ rfl;(try simp only [show (k40).sz = 2 from rfl,Nat.mul_one,Nat.add_zero] at hx13_1);have hf13_1 := hfr13 1;(try simp only [show (k40).sz = 2 from rfl,Nat.mul_one,Nat.add_zero] at hf13_1);clear hcl13 hcc13 hfr13 hM13) | ((with_reducible refine gate_store (t := 2) (p := 25) rfl ?_);(try (rw [drewN_self w12];generalize hq_ : World.drewN w12 _ = w12;have n0_ := Aside0.mk (Kd.R_at hq_ HO642.out);have n1_ := Aside0.mk (below_at hq_ HB.out);clear hq_ HO642 HB;have HO642 := n0_;have HB := n1_;clear n0_ n1_;(try (have HX13 := Aside0.mk (show Kd.R k40 40 w12 w.heap.size (fun _ => True) (.slice (some ⟨go9,0,none⟩) t640.length co9) t640 from (by (with_reducible repeat (first | apply Kd.R_alloc | apply Kd.R_drewN | apply Kd.R_drew));exact HO642.out))));(try (obtain ⟨ce13,hcl13,hM13,hcc13,hfr13⟩ := Kd.R_elem HX13.out z40 (t638 : Int) (of_decide_eq_true (by first | (with_reducible assumption) | assumption)) (by have h_ : (t638 : Int) < ((t640.length : Int) : Int) := of_decide_eq_true (by first | (with_reducible assumption) | assumption);first | exact h_ | (have e_ := (Kd.R_reads' HO642.out).1;omega) | simpa using h_)));(try (obtain rfl := k40_openM hM13));(try (have HP13 := Kd.R_seg HX13.out (t638 : Int) (of_decide_eq_true (by first | (with_reducible assumption) | assumption)) (by have h_ : (t638 : Int) < ((t640.length : Int) : Int) := of_decide_eq_true (by first | (with_reducible assumption) | assumption);first | exact h_ | (have e_ := (Kd.R_reads' HO642.out).1;omega) | simpa using h_) (seg := [.int .i64 a2]) (j := 1) hcl13 hcc13 (show 2 ≤ 2 from by decide) (x' := (⟨(rd_T40 t640 t638).f0,a2⟩ : S40)) (k40_mkM _ _ _ (⟨(rd_T40 t640 t638).f0,a2⟩ : S40) ) (fun _ hk => hk)));(try (have hx13_1 := hcc13 1 _ rfl));(try (try simp only [show (k40).sz = 2 from rfl,Nat.mul_one,Nat.add_zero] at hx13_1));(try (have hf13_1 := hfr13 1));(try (try simp only [show (k40).sz = 2 from rfl,Nat.mul_one,Nat.add_zero] at hf13_1));(try (clear hcl13 hcc13 hfr13 hM13))));refine store_event (t := 2) (p := 25) (v := ?vo_w14) (w1 := (w12.setCell ⟨go9,(t638 : Int).toNat * 2 + 1,none⟩ (.int .i64 a2))) ?hg ?ho ?hn ?hr ?_;(case ho => rfl);(case hg => rfl);(case hn => rfl);(case hr => first | (go_simp;done) | (go_simp;rfl));intro w14 hw;have hg : w12.grownBy w14 (some go9) := (by rw [hw];exact HP13.2);have hp_ : Kd.R k40 40 w14 w.heap.size (fun _ => True) (.slice (some ⟨go9,0,none⟩) t640.length co9) y643 := (by rw [hw,Ny643.out];exact HP13.1);clear HP13;have n0_ := Aside0.mk (hp_);have n1_ := Aside0.mk ((by rw [hw];exact below_set (HB.out) GB9.out : Below w.heap.size w w14));clear HO642;clear HB;have HO642 := n0_;have HB := n1_;clear n0_ n1_;clear hg hw hp_;have p644 : 0 ≤ (t638 : Int) := of_decide_eq_true (by first | (with_reducible assumption) | assumption);have q644 : t638 < (l0.length : Int) := of_decide_eq_true (by first | (with_reducible assumption) | assumption);obtain ⟨ad644,e644,hx644_0,hx644_1⟩ := at_T40 HR0.out t638 p644 q644;cases e644;replace hx644_0 := (HB.out.cell (World.block_lt_of_cell? w _ hx644_0)).trans hx644_0;replace hx644_1 := (HB.out.cell (World.block_lt_of_cell? w _ hx644_1)).trans hx644_1;replace p644 := eq_true p644;replace q644 := eq_true q644)))
          go_ret3
          exact ⟨_,by first | rfl | (simp [errW_none,errW_some] <;> rfl) | (simp [*,errW_none,errW_some] <;> rfl),by (with_reducible repeat (first | apply Kd.R_alloc | apply Kd.R_drewN | apply Kd.R_drew));exact HO642.out,by repeat (first | (with_reducible first | exact HB.out | apply below_alloc | apply pw_below_drewN | apply below_drew1) | exact HB.out)⟩
        · rw [if_neg c10] at H
          exact absurd H (by simp)
      · rw [if_neg c8] at H
        exact absurd H (by simp)
    · rw [if_neg c7] at H
      exact absurd H (by simp)
  · replace c6 := Bool.eq_false_iff.mpr c6
    subst c6
    have H1 : ((leaf_Pair_109.f t640 t638 (([(⟨a1,a2⟩ : S40)] : List (S40)))).bind fun t648 => (some (t648,0,false))) = some (r1,r2,r3) := by rw [if_neg (show ¬ (false = true) by decide)] at H;exact H
    clear H
    have H := H1
    clear H1
    obtain ⟨y645,hy645⟩ : ∃ y_ : List (S40),y_ = (([(⟨a1,a2⟩ : S40)] : List (S40))) := ⟨_,rfl⟩
    replace H : ((leaf_Pair_109.f t640 t638 y645).bind fun t648 => (some (t648,0,false))) = some (r1,r2,r3) := by first | (rw [hy645];with_reducible exact H) | (have H2_ := (Option.bind_some _ _).symm.trans H;rw [hy645];with_reducible exact H2_) | (have H2_ := (Option.bind_some _ _).symm.trans H;with_reducible exact H2_) | with_reducible exact H | (rw [hy645];exact H) | exact H
    have Ny645 := Aside0.mk hy645
    clear hy645
    replace H := Option.bind_eq_some_iff.mp H
    obtain ⟨t648,A150,H⟩ := H
    replace H : (some (t648,0,false)) = some (r1,r2,r3) := H
    have A15 := Aside0.mk A150
    clear A150
    simp only [Option.some.injEq,Prod.mk.injEq] at H
    obtain ⟨rfl,rfl,rfl⟩ := H
    go_enter Try.func68,Try.ntmps68
    go_wp2_with (first | (go_at_call 98;(with_reducible refine (leaf_Leaf_find.calls _ _ l0 a1 t638 false _ ?side1 ?side2 A4.out).mono ?_);(case side1 => repeat (first | exact HR0.out | (with_reducible refine Kd.C_alloc ?_ _) | (with_reducible refine Kd.C_drewN ?_ _) | (with_reducible refine Kd.C_drew ?_)));(case side2 => exact HC0.out);rintro e w16 ⟨rfl,hb⟩;have n0_ := Aside0.mk (below_step (by repeat (first | (with_reducible first | exact HB.out | apply below_alloc | apply pw_below_drewN | apply below_drew1) | exact HB.out)) hb);clear HB;have HB := n0_;clear n0_;(try clear hb);(try clear hb2);(try clear hk);(try clear hi)) | (go_at_call 99;(with_reducible refine (leaf_Pair_99.calls _ _ l0 t640 _ ?side1 ?side2 A5.out).mono ?_);(case side1 => repeat (first | exact (Kd.C_below HR0.out HB.out) | (with_reducible refine Kd.C_alloc ?_ _) | (with_reducible refine Kd.C_drewN ?_ _) | (with_reducible refine Kd.C_drew ?_)));(case side2 => exact HC0.out);rintro e w17 ⟨v641,rfl,ho0,hb⟩;have n0_ := Aside0.mk (Kd.R_lower ho0 (below_size (by repeat (first | (with_reducible first | exact HB.out | apply below_alloc | apply pw_below_drewN | apply below_drew1) | exact HB.out))));have n1_ := Aside0.mk (below_step (by repeat (first | (with_reducible first | exact HB.out | apply below_alloc | apply pw_below_drewN | apply below_drew1) | exact HB.out)) hb);clear HB;have HO642 := n0_;have HB := n1_;clear n0_ n1_;(try clear hb);(try clear hb2);(try clear hk);(try clear hi);(try clear ho0)) | ((with_reducible refine gate_dst (N := 37) rfl ?_);refine Kd.R_lit k40 _ 40 ?hg (N := 37) ?hd (xs := ([(⟨a1,a2⟩ : S40)] : List (S40))) (inner := [.int .i64 a1,.int .i64 a2]) (ok := fun _ => True) (okp := fun _ => True) ?hr ?hp (fun _ hk => hk) trivial (Below.refl _ _) (Nat.le_refl _) (by simp) ?_;(case hd => rfl);(case hg => rfl);(case hr => first | (go_simp;done) | (go_simp;rfl));(case hp => exact (Reps.c2 (show Kd.M k40 _ _ _ (⟨a1,a2⟩ : S40) [.int .i64 a1,.int .i64 a2] from (k40_mkM _ _ _ (⟨a1,a2⟩ : S40) )) (Reps.none _ _)));intro v646 w18 ho19 hb hg_ hnew_;clear hg_ hnew_;(first | rw [← Ny645.out] at ho19 | (simp only [Int.reduceToNat] at ho19;rw [← Ny645.out] at ho19));have n0_ := Aside0.mk (Kd.R_elder' (by (with_reducible repeat (first | apply Kd.R_alloc | apply Kd.R_drewN | apply Kd.R_drew));exact HO642.out) (Kd.R_base ho19) hb);have n1_ := Aside0.mk (Kd.R_lower (Kd.R_new' ho19 (Kd.R_lt (by (with_reducible repeat (first | apply Kd.R_alloc | apply Kd.R_drewN | apply Kd.R_drew));exact HO642.out))) (below_size (by repeat (first | (with_reducible first | exact HB.out | apply below_alloc | apply pw_below_drewN | apply below_drew1) | exact HB.out))));have n2_ := Aside0.mk (below_step (by repeat (first | (with_reducible first | exact HB.out | apply below_alloc | apply pw_below_drewN | apply below_drew1) | exact HB.out)) hb);clear HO642;clear HB;have HO642 := n0_;have HO647 := n1_;have HB := n2_;clear n0_ n1_ n2_;clear hb ho19;obtain ⟨Ao20,co20,eo20⟩ := Kd.R_slice HO642.out;subst eo20;obtain ⟨Ao21,co21,eo21⟩ := Kd.R_slice HO647.out;subst eo21) | (go_at_call 109;(with_reducible refine (leaf_Pair_109.calls (fun k_ => some k_ = (.slice Ao20 t640.length co20 : Value).ownBlock) (.slice Ao20 t640.length co20) t640 t638 _ _ y645 t648 w _ ?side1 ?side2 ?side3 ?side4 A15.out).mono ?_);(case side1 => repeat (first | (with_reducible first | exact HB.out | apply below_alloc | apply pw_below_drewN | apply below_drew1) | exact HB.out));(case side2 => exact Kd.R_tight rfl HO642.out);(case side3 => exact Kd.C_kept_own (HO647.out) (fun k_ hk_ hs_ => (hk_.2) hs_));(case side4 => exact (Kd.R_reads' HO647.out).2.1);rintro e w22 ⟨v649,rfl,ho0,hb,hkp⟩;have n0_ := Aside0.mk (Kd.R_mono (ok' := fun k_ => some k_ ≠ (v649 : Value).ownBlock) (Kd.R_keptB (HO647.out) hkp (fun k_ hk_ hs_ => (hk_.2) hs_)) (fun k_ hk_ => fun e_ => Or.elim (ho0.1 k_ e_.symm) (fun hs_ => hk_.2.1 hs_) (fun hn_ => Nat.not_le.2 hk_.2.2 hn_)));have n1_ := Aside0.mk (Kd.R_mono (ok' := fun k_ => some k_ ≠ (.slice Ao21 y645.length co21 : Value).ownBlock) ho0 (fun k_ hk_ => Or.elim hk_ (fun hs_ => fun e_ => (((HO647.out).1 k_ e_.symm).2) hs_) (fun hn_ => (Kd.fresh' (Kd.R_lt (by (with_reducible repeat (first | apply Kd.R_alloc | apply Kd.R_drewN | apply Kd.R_drew));exact HO647.out)) k_ hn_))));have n2_ := Aside0.mk (hb);clear HO647;clear HB;clear HO642;have HO647 := n0_;have HO650 := n1_;have HB := n2_;clear n0_ n1_ n2_;(try clear hb);(try clear hkp);(try clear ho0)))
    repeat (go_quiet (first | (go_at_call 98;(with_reducible refine (leaf_Leaf_find.calls _ _ l0 a1 t638 false _ ?side1 ?side2 A4.out).mono ?_);(case side1 => repeat (first | exact HR0.out | (with_reducible refine Kd.C_alloc ?_ _) | (with_reducible refine Kd.C_drewN ?_ _) | (with_reducible refine Kd.C_drew ?_)));(case side2 => exact HC0.out);rintro e w16 ⟨rfl,hb⟩;have n0_ := Aside0.mk (below_step (by repeat (first | (with_reducible first | exact HB.out | apply below_alloc | apply pw_below_drewN | apply below_drew1) | exact HB.out)) hb);clear HB;have HB := n0_;clear n0_;(try clear hb);(try clear hb2);(try clear hk);(try clear hi)) | (go_at_call 99;(with_reducible refine (leaf_Pair_99.calls _ _ l0 t640 _ ?side1 ?side2 A5.out).mono ?_);(case side1 => repeat (first | exact (Kd.C_below HR0.out HB.out) | (with_reducible refine Kd.C_alloc ?_ _) | (with_reducible refine Kd.C_drewN ?_ _) | (with_reducible refine Kd.C_drew ?_)));(case side2 => exact HC0.out);rintro e w17 ⟨v641,rfl,ho0,hb⟩;have n0_ := Aside0.mk (Kd.R_lower ho0 (below_size (by repeat (first | (with_reducible first | exact HB.out | apply below_alloc | apply pw_below_drewN | apply below_drew1) | exact HB.out))));have n1_ := Aside0.mk (below_step (by repeat (first | (with_reducible first | exact HB.out | apply below_alloc | apply pw_below_drewN | apply below_drew1) | exact HB.out)) hb);clear HB;have HO642 := n0_;have HB := n1_;clear n0_ n1_;(try clear hb);(try clear hb2);(try clear hk);(try clear hi);(try clear ho0)) | ((with_reducible refine gate_dst (N := 37) rfl ?_);refine Kd.R_lit k40 _ 40 ?hg (N := 37) ?hd (xs := ([(⟨a1,a2⟩ : S40)] : List (S40))) (inner := [.int .i64 a1,.int .i64 a2]) (ok := fun _ => True) (okp := fun _ => True) ?hr ?hp (fun _ hk => hk) trivial (Below.refl _ _) (Nat.le_refl _) (by simp) ?_;(case hd => rfl);(case hg => rfl);(case hr => first | (go_simp;done) | (go_simp;rfl));(case hp => exact (Reps.c2 (show Kd.M k40 _ _ _ (⟨a1,a2⟩ : S40) [.int .i64 a1,.int .i64 a2] from (k40_mkM _ _ _ (⟨a1,a2⟩ : S40) )) (Reps.none _ _)));intro v646 w18 ho19 hb hg_ hnew_;clear hg_ hnew_;(first | rw [← Ny645.out] at ho19 | (simp only [Int.reduceToNat] at ho19;rw [← Ny645.out] at ho19));have n0_ := Aside0.mk (Kd.R_elder' (by (with_reducible repeat (first | apply Kd.R_alloc | apply Kd.R_drewN | apply Kd.R_drew));exact HO642.out) (Kd.R_base ho19) hb);have n1_ := Aside0.mk (Kd.R_lower (Kd.R_new' ho19 (Kd.R_lt (by (with_reducible repeat (first | apply Kd.R_alloc | apply Kd.R_drewN | apply Kd.R_drew));exact HO642.out))) (below_size (by repeat (first | (with_reducible first | exact HB.out | apply below_alloc | apply pw_below_drewN | apply below_drew1) | exact HB.out))));have n2_ := Aside0.mk (below_step (by repeat (first | (with_reducible first | exact HB.out | apply below_alloc | apply pw_below_drewN | apply below_drew1) | exact HB.out)) hb);clear HO642;clear HB;have HO642 := n0_;have HO647 := n1_;have HB := n2_;clear n0_ n1_ n2_;clear hb ho19;obtain ⟨Ao20,co20,eo20⟩ := Kd.R_slice HO642.out;subst eo20;obtain ⟨Ao21,co21,eo21⟩ := Kd.R_slice HO647.out;subst eo21) | (go_at_call 109;(with_reducible refine (leaf_Pair_109.calls (fun k_ => some k_ = (.slice Ao20 t640.length co20 : Value).ownBlock) (.slice Ao20 t640.length co20) t640 t638 _ _ y645 t648 w _ ?side1 ?side2 ?side3 ?side4 A15.out).mono ?_);(case side1 => repeat (first | (with_reducible first | exact HB.out | apply below_alloc | apply pw_below_drewN | apply below_drew1) | exact HB.out));(case side2 => exact Kd.R_tight rfl HO642.out);(case side3 => exact Kd.C_kept_own (HO647.out) (fun k_ hk_ hs_ => (hk_.2) hs_));(case side4 => exact (Kd.R_reads' HO647.out).2.1);rintro e w22 ⟨v649,rfl,ho0,hb,hkp⟩;have n0_ := Aside0.mk (Kd.R_mono (ok' := fun k_ => some k_ ≠ (v649 : Value).ownBlock) (Kd.R_keptB (HO647.out) hkp (fun k_ hk_ hs_ => (hk_.2) hs_)) (fun k_ hk_ => fun e_ => Or.elim (ho0.1 k_ e_.symm) (fun hs_ => hk_.2.1 hs_) (fun hn_ => Nat.not_le.2 hk_.2.2 hn_)));have n1_ := Aside0.mk (Kd.R_mono (ok' := fun k_ => some k_ ≠ (.slice Ao21 y645.length co21 : Value).ownBlock) ho0 (fun k_ hk_ => Or.elim hk_ (fun hs_ => fun e_ => (((HO647.out).1 k_ e_.symm).2) hs_) (fun hn_ => (Kd.fresh' (Kd.R_lt (by (with_reducible repeat (first | apply Kd.R_alloc | apply Kd.R_drewN | apply Kd.R_drew));exact HO647.out)) k_ hn_))));have n2_ := Aside0.mk (hb);clear HO647;clear HB;clear HO642;have HO647 := n0_;have HO650 := n1_;have HB := n2_;clear n0_ n1_ n2_;(try clear hb);(try clear hkp);(try clear ho0)));try go_wp2_with (first | (go_at_call 98;(with_reducible refine (leaf_Leaf_find.calls _ _ l0 a1 t638 false _ ?side1 ?side2 A4.out).mono ?_);(case side1 => repeat (first | exact HR0.out | (with_reducible refine Kd.C_alloc ?_ _) | (with_reducible refine Kd.C_drewN ?_ _) | (with_reducible refine Kd.C_drew ?_)));(case side2 => exact HC0.out);rintro e w16 ⟨rfl,hb⟩;have n0_ := Aside0.mk (below_step (by repeat (first | (with_reducible first | exact HB.out | apply below_alloc | apply pw_below_drewN | apply below_drew1) | exact HB.out)) hb);clear HB;have HB := n0_;clear n0_;(try clear hb);(try clear hb2);(try clear hk);(try clear hi)) | (go_at_call 99;(with_reducible refine (leaf_Pair_99.calls _ _ l0 t640 _ ?side1 ?side2 A5.out).mono ?_);(case side1 => repeat (first | exact (Kd.C_below HR0.out HB.out) | (with_reducible refine Kd.C_alloc ?_ _) | (with_reducible refine Kd.C_drewN ?_ _) | (with_reducible refine Kd.C_drew ?_)));(case side2 => exact HC0.out);rintro e w17 ⟨v641,rfl,ho0,hb⟩;have n0_ := Aside0.mk (Kd.R_lower ho0 (below_size (by repeat (first | (with_reducible first | exact HB.out | apply below_alloc | apply pw_below_drewN | apply below_drew1) | exact HB.out))));have n1_ := Aside0.mk (below_step (by repeat (first | (with_reducible first | exact HB.out | apply below_alloc | apply pw_below_drewN | apply below_drew1) | exact HB.out)) hb);clear HB;have HO642 := n0_;have HB := n1_;clear n0_ n1_;(try clear hb);(try clear hb2);(try clear hk);(try clear hi);(try clear ho0)) | ((with_reducible refine gate_dst (N := 37) rfl ?_);refine Kd.R_lit k40 _ 40 ?hg (N := 37) ?hd (xs := ([(⟨a1,a2⟩ : S40)] : List (S40))) (inner := [.int .i64 a1,.int .i64 a2]) (ok := fun _ => True) (okp := fun _ => True) ?hr ?hp (fun _ hk => hk) trivial (Below.refl _ _) (Nat.le_refl _) (by simp) ?_;(case hd => rfl);(case hg => rfl);(case hr => first | (go_simp;done) | (go_simp;rfl));(case hp => exact (Reps.c2 (show Kd.M k40 _ _ _ (⟨a1,a2⟩ : S40) [.int .i64 a1,.int .i64 a2] from (k40_mkM _ _ _ (⟨a1,a2⟩ : S40) )) (Reps.none _ _)));intro v646 w18 ho19 hb hg_ hnew_;clear hg_ hnew_;(first | rw [← Ny645.out] at ho19 | (simp only [Int.reduceToNat] at ho19;rw [← Ny645.out] at ho19));have n0_ := Aside0.mk (Kd.R_elder' (by (with_reducible repeat (first | apply Kd.R_alloc | apply Kd.R_drewN | apply Kd.R_drew));exact HO642.out) (Kd.R_base ho19) hb);have n1_ := Aside0.mk (Kd.R_lower (Kd.R_new' ho19 (Kd.R_lt (by (with_reducible repeat (first | apply Kd.R_alloc | apply Kd.R_drewN | apply Kd.R_drew));exact HO642.out))) (below_size (by repeat (first | (with_reducible first | exact HB.out | apply below_alloc | apply pw_below_drewN | apply below_drew1) | exact HB.out))));have n2_ := Aside0.mk (below_step (by repeat (first | (with_reducible first | exact HB.out | apply below_alloc | apply pw_below_drewN | apply below_drew1) | exact HB.out)) hb);clear HO642;clear HB;have HO642 := n0_;have HO647 := n1_;have HB := n2_;clear n0_ n1_ n2_;clear hb ho19;obtain ⟨Ao20,co20,eo20⟩ := Kd.R_slice HO642.out;subst eo20;obtain ⟨Ao21,co21,eo21⟩ := Kd.R_slice HO647.out;subst eo21) | (go_at_call 109;(with_reducible refine (leaf_Pair_109.calls (fun k_ => some k_ = (.slice Ao20 t640.length co20 : Value).ownBlock) (.slice Ao20 t640.length co20) t640 t638 _ _ y645 t648 w _ ?side1 ?side2 ?side3 ?side4 A15.out).mono ?_);(case side1 => repeat (first | (with_reducible first | exact HB.out | apply below_alloc | apply pw_below_drewN | apply below_drew1) | exact HB.out));(case side2 => exact Kd.R_tight rfl HO642.out);(case side3 => exact Kd.C_kept_own (HO647.out) (fun k_ hk_ hs_ => (hk_.2) hs_));(case side4 => exact (Kd.R_reads' HO647.out).2.1);rintro e w22 ⟨v649,rfl,ho0,hb,hkp⟩;have n0_ := Aside0.mk (Kd.R_mono (ok' := fun k_ => some k_ ≠ (v649 : Value).ownBlock) (Kd.R_keptB (HO647.out) hkp (fun k_ hk_ hs_ => (hk_.2) hs_)) (fun k_ hk_ => fun e_ => Or.elim (ho0.1 k_ e_.symm) (fun hs_ => hk_.2.1 hs_) (fun hn_ => Nat.not_le.2 hk_.2.2 hn_)));have n1_ := Aside0.mk (Kd.R_mono (ok' := fun k_ => some k_ ≠ (.slice Ao21 y645.length co21 : Value).ownBlock) ho0 (fun k_ hk_ => Or.elim hk_ (fun hs_ => fun e_ => (((HO647.out).1 k_ e_.symm).2) hs_) (fun hn_ => (Kd.fresh' (Kd.R_lt (by (with_reducible repeat (first | apply Kd.R_alloc | apply Kd.R_drewN | apply Kd.R_drew));exact HO647.out)) k_ hn_))));have n2_ := Aside0.mk (hb);clear HO647;clear HB;clear HO642;have HO647 := n0_;have HO650 := n1_;have HB := n2_;clear n0_ n1_ n2_;(try clear hb);(try clear hkp);(try clear ho0))))
    go_ret3
    exact ⟨_,by first | rfl | (simp [errW_none,errW_some] <;> rfl) | (simp [*,errW_none,errW_some] <;> rfl),by (with_reducible repeat (first | apply Kd.R_alloc | apply Kd.R_drewN | apply Kd.R_drew));exact Kd.R_mono HO650.out (fun _ hk => trivial),by repeat (first | (with_reducible first | exact HB.out | apply below_alloc | apply pw_below_drewN | apply below_drew1) | exact HB.out)⟩

def leaf_Pair_115.l0 : Nat → List (S40) → List (S40) → Int → Int → Option (Bool)
  | 0,_,_,_,_ => none
  | k + 1,x0,x1,x12,x13 => if x13 < x12 then (if 0 ≤ x13 then (if x13 < (x0.length : Int) then (if x13 < (x1.length : Int) then (if (!(((rd_T40 x0 x13).f0) == ((rd_T40 x1 x13).f0)) || (!(((rd_T40 x0 x13).f1) == ((rd_T40 x1 x13).f1)))) = true then (some false) else (leaf_Pair_115.l0 k x0 x1 x12 (wrap64 (x13 + 1)))) else (none)) else (none)) else (none)) else (some true)
def leaf_Pair_115.f (k : Nat) (l0 : List (S40)) (l1 : List (S40)) : Option (Bool) := if (l0.length : Int) = (l1.length : Int) then (leaf_Pair_115.l0 k l0 l1 (l0.length : Int) 0) else (some false)
set_option maxHeartbeats 8000000 in
set_option maxRecDepth 100000 in
theorem leaf_Pair_115.calls (k : Nat) (A0 : Option Addr) (c0 : Nat) (l0 : List (S40)) (A1 : Option Addr) (c1 : Nat) (l1 : List (S40)) (r : Bool) (w : World) (hr0 : Kd.C k40 w A0 l0.length l0) (hc0 : l0.length ≤ c0) (hr1 : Kd.C k40 w A1 l1.length l1) (hc1 : l1.length ≤ c1) (h : leaf_Pair_115.f k l0 l1 = some r) :
    Calls Try.prog 115 #[.slice A0 l0.length c0,.slice A1 l1.length c1] w fun e w' => e = .returned (.bool r) ∧ Drawn0 w w' := by
  have hu40 := Try.underlying40
  have HR0 := Aside0.mk hr0
  have HC0 := Aside0.mk hc0
  clear hr0 hc0
  have HR1 := Aside0.mk hr1
  have HC1 := Aside0.mk hc1
  clear hr1 hc1
  have H : (if (l0.length : Int) = (l1.length : Int) then (leaf_Pair_115.l0 k l0 l1 (l0.length : Int) 0) else (some false)) = some r := h
  clear h
  by_cases c3 : (l0.length : Int) = (l1.length : Int)
  · rw [if_pos c3] at H
    have c3b0 : ((l0.length : Int) == (l1.length : Int)) = true := beq_iff_eq.mpr c3
    have c3b1 : ((l0.length : Int) != (l1.length : Int)) = false := bne_eq_false_iff_eq.mpr c3
    have c3b2 : (l0.length == l1.length) = true := by first | simpa using c3 | (simp at c3 ⊢;omega)
    clear c3
    have H' := Aside0.mk H
    clear H
    go_enter Try.func115,Try.ntmps115
    go_wp2
    repeat (go_quiet (fail);try go_wp2)
    go_loopg [13] k (fun kq v13 w' => ∃ (x13_1 : Int),v13 = .int .i64 x13_1 ∧ Aside0 (leaf_Pair_115.l0 kq l0 l1 (l0.length : Int) x13_1 = some r) ∧ Aside0 (kq ≤ k) ∧ Drawn0 w w')
    case atStart => exact ⟨(0),(by first | rfl | (simp;done) | (simp [*];done)),H',⟨Nat.le_refl _⟩,by repeat (first | exact Drawn0.refl _ | apply Drawn0.step)⟩
    case round =>
      clear H'
      try clear c1
      try clear p2
      try clear c3
      try clear c3b0
      try clear c3b1
      try clear c3b2
      obtain ⟨x13_1,rfl,HA,HK1,⟨m1,rfl⟩⟩ := hrel
      cases gk with
      | zero => exact absurd HA.out (by simp [leaf_Pair_115.l0])
      | succ k1 =>
        have H := HA.out
        clear HA
        simp only [leaf_Pair_115.l0] at H
        by_cases c4 : x13_1 < (l0.length : Int)
        · rw [if_pos c4] at H
          have c4b0 : decide (x13_1 < (l0.length : Int)) = true := decide_eq_true c4
          clear c4
          by_cases c5 : 0 ≤ x13_1
          · rw [if_pos c5] at H
            have c5b0 : decide (0 ≤ x13_1) = true := decide_eq_true c5
            clear c5
            by_cases c6 : x13_1 < (l0.length : Int)
            · rw [if_pos c6] at H
              have c6b0 : decide (x13_1 < (l0.length : Int)) = true := decide_eq_true c6
              clear c6
              by_cases c7 : x13_1 < (l1.length : Int)
              · rw [if_pos c7] at H
                have c7b0 : decide (x13_1 < (l1.length : Int)) = true := decide_eq_true c7
                clear c7
                by_cases c8 : (!(((rd_T40 l0 x13_1).f0) == ((rd_T40 l1 x13_1).f0)) || (!(((rd_T40 l0 x13_1).f1) == ((rd_T40 l1 x13_1).f1)))) = true
                · rw [if_pos c8] at H
                  have c8b0 : (!(((rd_T40 l0 x13_1).f0) == ((rd_T40 l1 x13_1).f0)) || (!(((rd_T40 l0 x13_1).f1) == ((rd_T40 l1 x13_1).f1)))) = true := c8
                  clear c8
                  obtain rfl := Option.some.inj H
                  have p1191 : 0 ≤ (x13_1 : Int) := of_decide_eq_true (by first | (with_reducible assumption) | assumption)
                  have q1191 : x13_1 < (l0.length : Int) := of_decide_eq_true (by first | (with_reducible assumption) | assumption)
                  obtain ⟨ad1191,e1191,hx1191_0,hx1191_1⟩ := at_T40 HR0.out x13_1 p1191 q1191
                  cases e1191
                  replace p1191 := eq_true p1191
                  replace q1191 := eq_true q1191
                  have p1192 : 0 ≤ (x13_1 : Int) := of_decide_eq_true (by first | (with_reducible assumption) | assumption)
                  have q1192 : x13_1 < (l1.length : Int) := of_decide_eq_true (by first | (with_reducible assumption) | assumption)
                  obtain ⟨ad1192,e1192,hx1192_0,hx1192_1⟩ := at_T40 HR1.out x13_1 p1192 q1192
                  cases e1192
                  replace p1192 := eq_true p1192
                  replace q1192 := eq_true q1192
                  go_wp2
                  repeat (go_quiet (fail);try go_wp2)
                  go_ret
                  exact ⟨by first | rfl | (simp;done) | (simp [*];done),by repeat (first | exact Drawn0.refl _ | apply Drawn0.step)⟩
                · rw [if_neg c8] at H
                  have c8b0 : (!(((rd_T40 l0 x13_1).f0) == ((rd_T40 l1 x13_1).f0)) || (!(((rd_T40 l0 x13_1).f1) == ((rd_T40 l1 x13_1).f1)))) = false := by simpa using c8
                  clear c8
                  have H' := Aside0.mk H
                  clear H
                  have p1191 : 0 ≤ (x13_1 : Int) := of_decide_eq_true (by first | (with_reducible assumption) | assumption)
                  have q1191 : x13_1 < (l0.length : Int) := of_decide_eq_true (by first | (with_reducible assumption) | assumption)
                  obtain ⟨ad1191,e1191,hx1191_0,hx1191_1⟩ := at_T40 HR0.out x13_1 p1191 q1191
                  cases e1191
                  replace p1191 := eq_true p1191
                  replace q1191 := eq_true q1191
                  have p1192 : 0 ≤ (x13_1 : Int) := of_decide_eq_true (by first | (with_reducible assumption) | assumption)
                  have q1192 : x13_1 < (l1.length : Int) := of_decide_eq_true (by first | (with_reducible assumption) | assumption)
                  obtain ⟨ad1192,e1192,hx1192_0,hx1192_1⟩ := at_T40 HR1.out x13_1 p1192 q1192
                  cases e1192
                  replace p1192 := eq_true p1192
                  replace q1192 := eq_true q1192
                  go_wp2
                  repeat (go_quiet (fail);try go_wp2)
                  go_roundg k1
                  case measure => have := HK1.out;omega
                  case rel => exact ⟨(wrap64 (x13_1 + 1)),(by first | rfl | (simp;done) | (simp [*];done)),H',⟨by have := HK1.out;omega⟩,by repeat (first | exact Drawn0.refl _ | apply Drawn0.step)⟩
              · rw [if_neg c7] at H
                exact absurd H (by simp)
            · rw [if_neg c6] at H
              exact absurd H (by simp)
          · rw [if_neg c5] at H
            exact absurd H (by simp)
        · rw [if_neg c4] at H
          have c4b0 : decide (x13_1 < (l0.length : Int)) = false := decide_eq_false c4
          clear c4
          obtain rfl := Option.some.inj H
          go_wp2
          repeat (go_quiet (fail);try go_wp2)
          go_ret
          exact ⟨by first | rfl | (simp;done) | (simp [*];done),by repeat (first | exact Drawn0.refl _ | apply Drawn0.step)⟩
  · rw [if_neg c3] at H
    have c3b0 : ((l0.length : Int) == (l1.length : Int)) = false := beq_eq_false_iff_ne.mpr c3
    have c3b1 : ((l0.length : Int) != (l1.length : Int)) = true := bne_iff_ne.mpr c3
    have c3b2 : (l0.length == l1.length) = false := by first | simpa using c3 | (simp at c3 ⊢;omega)
    obtain rfl := Option.some.inj H
    go_enter Try.func115,Try.ntmps115
    go_wp2
    repeat (go_quiet (fail);try go_wp2)
    go_ret
    exact ⟨by first | rfl | (simp;done) | (simp [*];done),by repeat (first | exact Drawn0.refl _ | apply Drawn0.step)⟩

end Go.Proofs.Ytkoiffkonjpoiaa.Q
