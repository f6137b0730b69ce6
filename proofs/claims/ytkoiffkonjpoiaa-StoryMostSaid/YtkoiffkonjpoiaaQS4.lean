/- The search for an order, by hand: its plain function, and what stands in memory while it goes on. No condition beyond what is said. -/
import Derived.Test.YtkoiffkonjpoiaaQS1
import Derived.Scope
import Derived.Test.YtkoiffkonjpoiaaQS3
import Derived.Test.YtkoiffkonjpoiaaYStory
import Derived.Test.YtkoiffkonjpoiaaQM2
namespace Go.Proofs.Ytkoiffkonjpoiaa.Q
open Go.RowKit Go.Proofs.YtkoiffkonjpoiaaW.PrintWords Go.Proofs.YtkoiffkonjpoiaaW.PrintLast Go.Proofs.YtkoiffkonjpoiaaW.PrintMore Go.Proofs.YtkoiffkonjpoiaaX
attribute [local go_sem] max2_int min2_int max_two min_two max_three min_three max_four min_four
set_option linter.unusedVariables false
set_option linter.unusedSimpArgs false
theorem wpList_seen_look (w : World) {ops : Array Oper} {rest : List Oper} {o : Oper} {a : Act} {Q : Exit → Act → World → Prop} (hg : o.guard = none) (m x : Operand) (hop : o.op = Op.lookup 152 m x false) (mb : Nat) (seen : List (Nat × List UInt8)) (hm : a.eval m = .map (some mb)) (hs : SeenAt w mb seen) (k : Nat × List UInt8) (hx : a.eval x = keyV k) (hk : okKey k)
    (hK : wpList Try.prog ops Q rest (a.put o.dst (.int .i64 (if k ∈ seen then 1 else 0))) w) : wpList Try.prog ops Q (o :: rest) a w := by
  refine wpList_plain hg fun K' hK' => ?_
  have hrun := run_seen_look hs hk
  unfold Oper.wp
  simp [execOp, hop, hm, hx, hrun, Result.andThen]
  exact hK' _ _ hK
theorem wpList_seen_put (w : World) {ops : Array Oper} {rest : List Oper} {o : Oper} {a : Act} {Q : Exit → Act → World → Prop} (hg : o.guard = none) (m x v : Operand) (hop : o.op = Op.mapUpdate 152 m x v) (mb : Nat) (seen : List (Nat × List UInt8)) (hm : a.eval m = .map (some mb)) (hs : SeenAt w mb seen) (k : Nat × List UInt8) (hx : a.eval x = keyV k) (hv : a.eval v = .int .i64 1) (hk : okKey k) (hn : k ∉ seen)
    (hK : ∀ W, SeenAt W mb (k :: seen) → w.grownBy W (some mb) → wpList Try.prog ops Q rest (a.put o.dst undef) W) : wpList Try.prog ops Q (o :: rest) a w := by
  refine wpList_plain hg fun K' hK' => ?_
  obtain ⟨W, hrun, h1, h2⟩ := run_seen_put hs hk hn
  unfold Oper.wp
  simp [execOp, hop, hm, hx, hv, hrun, Result.andThen]
  exact hK' _ _ (hK W h1 h2)
/-- What becomes of the pairs by an event; nothing, if it answers otherwise. -/
def stepE (k : Nat) (p : List S40) (e : S128) : Option (Option (List S40)) := (model_Apply.f k p e.f1.f0 e.f1.f1 e.f1.f2 e.f1.f3).bind fun a => if a.1.length < 8796093022208 then (if 0 ≤ e.f3 then (model_Same.f k a.2.1 a.2.2.1 a.2.2.2.1 a.2.2.2.2.1 a.2.2.2.2.2.1 a.2.2.2.2.2.2 e.f4.f0 e.f4.f1 e.f4.f2 e.f4.f3 e.f4.f4 e.f4.f5).bind fun s => some (if s = true then some a.1 else none) else some (some a.1)) else none
def stepF (k : Nat) (l : List S128) (p : List S40) (i : Nat) : Option (Option (List S40)) := match l[i]? with | some e => stepE k p e | none => none
def evOf (k : Nat) (e : S128) : Srch.Ev (List S40) := ⟨mustE e, !noneE e, e.f2, e.f3, fun p => (stepE k p e).join⟩
abbrev stOf (k : Nat) (l : List S128) : Srch.St (List S40) := Srch.sto (l.map (evOf k))
/-- The numbers of those that must be in an order. -/
def musts (l : List S128) : List Nat := (List.range l.length).filter fun i => match l[i]? with | some e => mustE e | none => false
def allM (l : List S128) : Nat := Srch.mask (musts l)
def toI (so : List Nat) : List Int := so.map Int.ofNat
theorem toI_snoc (so : List Nat) (i : Nat) : toI (so ++ [i]) = toI so ++ [(i : Int)] := by simp [toI]
abbrev find.f (k : Nat) (l : List S128) := Srch.find (stOf k l) txtU (stepF k l)
theorem Try_mixed : Try.prog.follows .mixedOrders = true := by kernel_rfl
theorem below_drawn (w : World) : Below w.heap.size w { w with drawn := w.drawn + 1 } := ⟨rfl, rfl, rfl, Nat.le_refl _, fun _ _ => rfl⟩
theorem drawn_all {id : Nat} {Q : Exit → Act → World → Prop} {a : Act} {w : World} {l : List Oper} (hB : Region.lexB .any l.toArray = true)
    (h : ∀ W, W.heap = w.heap → Below w.heap.size w W → wpStill Try.prog l.toArray W (fun a' => Q .normal a' W) l a) : (Code.region id l.toArray true).wp Try.prog Q a w :=
  wp_region_still_lit Try_mixed hB (h _ rfl (below_drawn w))
theorem drawn_tail {id : Nat} {Q : Exit → Act → World → Prop} {a : Act} {w : World} {l : List Oper} (n : Nat) (hB : Region.lexTailB .any l.toArray n = true)
    (h : ∀ W, W.heap = w.heap → Below w.heap.size w W → wpStill Try.prog l.toArray W (fun a' => wpList Try.prog l.toArray Q (l.drop n) a' W) (l.take n) a) : (Code.region id l.toArray true).wp Try.prog Q a w :=
  wp_region_still_tail n Try_mixed hB (h _ rfl (below_drawn w))
theorem bits_u64 (a b : Nat) (ha : a < 18446744073709551616) (hb : b < 18446744073709551616) : bits .and .u64 (a : Int) (b : Int) = ((a &&& b : Nat) : Int) ∧ bits .or .u64 (a : Int) (b : Int) = ((a ||| b : Nat) : Int) :=
  bits_nat .u64 64 (by decide) (fun n h0 h1 => by simp [IntKind.wrap, IntKind.bits, IntKind.signed]; omega) a b ha hb
theorem mask_lt (n : Nat) : ∀ so : List Nat, (∀ i ∈ so, i < n) → Srch.mask so < 2 ^ n := by
  intro so h
  refine Nat.lt_pow_two_of_testBit _ (fun i hi => ?_)
  rw [Srch.testBit_mask]
  exact decide_eq_false (fun hm => by have := h i hm; omega)
theorem mem_musts (l : List S128) (i : Nat) : i ∈ musts l ↔ ∃ e, l[i]? = some e ∧ mustE e = true := by
  unfold musts
  rw [List.mem_filter, List.mem_range]
  constructor
  · rintro ⟨h1, h2⟩
    rw [List.getElem?_eq_getElem h1] at h2 ⊢
    exact ⟨_, rfl, h2⟩
  · rintro ⟨e, h1, h2⟩
    exact ⟨(List.getElem?_eq_some_iff.1 h1).1, by rw [h1]; exact h2⟩
theorem allM_lt (l : List S128) (hn : l.length ≤ 62) : allM l < 18446744073709551616 := by
  have h1 := mask_lt l.length (musts l) (fun i hi => by obtain ⟨e, h, _⟩ := (mem_musts l i).1 hi; exact (List.getElem?_eq_some_iff.1 h).1)
  exact Nat.lt_of_lt_of_le h1 (Nat.le_trans (Nat.pow_le_pow_right (by decide) hn) (by decide))
theorem mustAt_evs (k : Nat) (l : List S128) (i : Nat) : (stOf k l).must i = (match l[i]? with | some e => mustE e | none => false) := by
  show Srch.mustAt _ i = _
  unfold Srch.mustAt
  rw [List.getElem?_map]
  cases l[i]? <;> rfl
theorem allIn_bits (k : Nat) (l : List S128) (D : Nat) (hD : D < 18446744073709551616) (hn : l.length ≤ 62) : (bits .and .u64 (D : Int) (allM l : Int) == (allM l : Int)) = Srch.allIn (stOf k l) D := by
  rw [(bits_u64 D (allM l) hD (allM_lt l hn)).1]
  have h1 : Srch.allIn (stOf k l) D = true ↔ ∀ i ∈ musts l, D.testBit i = true := by
    simp only [Srch.allIn, List.all_eq_true, List.mem_range, Bool.or_eq_true, Bool.not_eq_true', mustAt_evs]
    constructor
    · intro h i hi
      obtain ⟨e, he, hm⟩ := (mem_musts l i).1 hi
      have hlt : i < (stOf k l).n := by show i < (l.map (evOf k)).length; rw [List.length_map]; exact (List.getElem?_eq_some_iff.1 he).1
      rcases h i hlt with h | h
      · rw [he] at h; dsimp only at h; rw [hm] at h; cases h
      · exact h
    · intro h i hi
      cases hx : l[i]? with
      | none => exact .inl rfl
      | some e =>
        cases hm : mustE e with
        | false => exact .inl hm
        | true => exact .inr (h i ((mem_musts l i).2 ⟨e, hx, hm⟩))
  have h2 : (D &&& allM l = allM l) ↔ ∀ i ∈ musts l, D.testBit i = true := by
    constructor
    · intro h i hi
      have := congrArg (fun x => x.testBit i) h
      simp only [Nat.testBit_and, allM, Srch.testBit_mask, decide_eq_true hi, Bool.and_true] at this
      exact this
    · intro h
      refine Nat.eq_of_testBit_eq fun i => ?_
      rw [Nat.testBit_and]
      cases hx : (allM l).testBit i with
      | false => simp
      | true =>
        have : i ∈ musts l := by
          unfold allM at hx
          rw [Srch.testBit_mask] at hx
          exact of_decide_eq_true hx
        rw [h i this]
        rfl
  rw [Bool.eq_iff_iff, h1, ← h2, beq_iff_eq]
  omega
theorem kept_below {w W W' : World} {S : Nat → Prop} (h : Kept w W S) (hb : Below W.heap.size W W') : Kept w W' S :=
  ⟨Nat.le_trans h.1 hb.size, fun i hi hn => (hb.block i (Nat.lt_of_lt_of_le hi h.1)).trans (h.2 i hi hn)⟩
theorem seen_lt {w : World} {mb : Nat} {seen : List (Nat × List UInt8)} (h : SeenAt w mb seen) : mb < w.heap.size := by
  obtain ⟨_, es, clock, h, _⟩ := h
  exact (Array.getElem?_eq_some_iff.1 h).1
/-- The searcher's cells. -/
def srA (A0 : Option Addr) (n c0 al mb : Nat) (v : Value) : Array Value := #[.slice A0 n c0, .int .u64 (al : Int), .map (some mb), v]
/-- What stands while a search goes on. -/
structure SF (w0 w : World) (g mb : Nat) (A0 : Option Addr) (n c0 al : Nat) (P0 okp : Nat → Prop) (B : Nat) (v : Value) (p : List S40) (seen : List (Nat × List UInt8)) (vo : Value) (so : List Nat) (W : World) : Prop where
  b : Below w0.heap.size w0 W
  k : Kept w W (fun b => P0 b ∨ b = g ∨ b = mb)
  x : W.heap[g]? = some (.cells (srA A0 n c0 al mb vo) 155 (0, 0))
  s : SeenAt W mb seen
  o : Kd.R (Kd.int .i64) 3 W w0.heap.size (fun b => P0 b ∨ w.heap.size ≤ b) vo (toI so)
  v : Kd.V k40 40 W B okp v p
theorem SF.below {w0 w : World} {g mb : Nat} {A0 : Option Addr} {n c0 al : Nat} {P0 okp : Nat → Prop} {B : Nat} {v : Value} {p : List S40} {seen : List (Nat × List UInt8)} {vo : Value} {so : List Nat} {W W' : World}
    (h : SF w0 w g mb A0 n c0 al P0 okp B v p seen vo so W) (hb : Below W.heap.size W W') : SF w0 w g mb A0 n c0 al P0 okp B v p seen vo so W' :=
  ⟨below_step h.b hb, kept_below h.k hb, blk_below h.x hb, h.s.keep (hb.block mb (seen_lt h.s)), Kd.R_below h.o hb, Kd.V_below h.v hb⟩
theorem SF.cells {w0 w : World} {g mb : Nat} {A0 : Option Addr} {n c0 al : Nat} {P0 okp : Nat → Prop} {B : Nat} {v : Value} {p : List S40} {seen : List (Nat × List UInt8)} {vo : Value} {so : List Nat} {W : World}
    (h : SF w0 w g mb A0 n c0 al P0 okp B v p seen vo so W) : W.cell? ⟨g, 0, none⟩ = some (.slice A0 n c0) ∧ W.cell? ⟨g, 1, none⟩ = some (.int .u64 (al : Int)) ∧ W.cell? ⟨g, 2, none⟩ = some (.map (some mb)) ∧ W.cell? ⟨g, 3, none⟩ = some vo ∧ W.frozen? ⟨g, 3, none⟩ = false :=
  ⟨(blk_cell h.x 0).trans rfl, (blk_cell h.x 1).trans rfl, (blk_cell h.x 2).trans rfl, (blk_cell h.x 3).trans rfl, blk_frozen h.x 3⟩
section
variable {w0 w : World} {g mb : Nat} {A0 : Option Addr} {n c0 al : Nat} {P0 okp : Nat → Prop} {B : Nat} {v : Value} {p : List S40} {seen seen' : List (Nat × List UInt8)} {vo : Value} {so : List Nat} {W W' : World}
theorem SF.put (h : SF w0 w g mb A0 n c0 al P0 okp B v p seen vo so W) (hs : SeenAt W' mb seen') (hg : W.grownBy W' (some mb)) (hne : g ≠ mb) (hm0 : w0.heap.size ≤ mb) (hPm : ¬ P0 mb) (hmw : mb < w.heap.size) (hw0 : w0.heap.size ≤ w.heap.size) (hok : ∀ b, okp b → ¬ P0 b ∧ b ≠ g ∧ b ≠ mb) :
    SF w0 w g mb A0 n c0 al P0 okp B v p seen' vo so W' := by
  have hsz : w.heap.size ≤ W.heap.size := h.k.1
  have hgl : g < W.heap.size := (Array.getElem?_eq_some_iff.1 h.x).1
  have hkep : Kept W W' (fun b => b = mb) := ⟨hg.size, fun i hi hn => hg.block i hi (fun e => hn (Option.some.inj e))⟩
  refine ⟨h.b.grown hg (Nat.le_trans hw0 hsz) (fun k e => by obtain rfl := Option.some.inj e; exact hm0), ⟨Nat.le_trans hsz hg.size, fun i hi hn => ?_⟩, (hg.block g hgl (fun e => hne (Option.some.inj e))).trans h.x, hs, ?_, ?_⟩
  · exact (hg.block i (Nat.lt_of_lt_of_le hi hsz) (fun e => hn (.inr (.inr (Option.some.inj e))))).trans (h.k.2 i hi hn)
  · refine Kd.R_mono (Kd.R_keptB h.o hkep (fun b hb e => ?_)) (fun _ hb => hb.1)
    rcases hb with hb | hb
    · exact hPm (e ▸ hb)
    · omega
  · exact Kd.V_map h.v (fun A hf => Kd.F_step hf (fun b hb hlt => hg.block b hlt (fun e => (hok b hb).2.2 (Option.some.inj e))))
end
theorem ev_at {w0 W : World} {A : Option Addr} {l : List S128} (hr : Kd.C k128 w0 A l.length l) (hb : Below w0.heap.size w0 W) (i : Nat) (h : i < l.length) (e : S128) (he : e = rd_T128 l (i : Int)) : ∃ ad A11 c11, A = some ad ∧ W.cell? (ad.add (i * 13)) = some (.int .i64 e.f0) ∧ W.cell? ⟨(ad.add (i * 13)).block, (ad.add (i * 13)).off + 1, none⟩ = some (.int .u8 e.f1.f0) ∧ W.cell? ⟨(ad.add (i * 13)).block, (ad.add (i * 13)).off + 2, none⟩ = some (.int .i64 e.f1.f1) ∧ W.cell? ⟨(ad.add (i * 13)).block, (ad.add (i * 13)).off + 3, none⟩ = some (.int .i64 e.f1.f2) ∧ W.cell? ⟨(ad.add (i * 13)).block, (ad.add (i * 13)).off + 4, none⟩ = some (.int .i64 e.f1.f3) ∧ W.cell? ⟨(ad.add (i * 13)).block, (ad.add (i * 13)).off + 5, none⟩ = some (.int .i64 e.f2) ∧ W.cell? ⟨(ad.add (i * 13)).block, (ad.add (i * 13)).off + 6, none⟩ = some (.int .i64 e.f3) ∧ W.cell? ⟨(ad.add (i * 13)).block, (ad.add (i * 13)).off + 7, none⟩ = some (.int .i64 e.f4.f0) ∧ W.cell? ⟨(ad.add (i * 13)).block, (ad.add (i * 13)).off + 8, none⟩ = some (.bool e.f4.f1) ∧ W.cell? ⟨(ad.add (i * 13)).block, (ad.add (i * 13)).off + 9, none⟩ = some (.int .i64 e.f4.f2) ∧ W.cell? ⟨(ad.add (i * 13)).block, (ad.add (i * 13)).off + 10, none⟩ = some (.int .i64 e.f4.f3) ∧ W.cell? ⟨(ad.add (i * 13)).block, (ad.add (i * 13)).off + 11, none⟩ = some (.slice A11 e.f4.f4.length c11) ∧ W.cell? ⟨(ad.add (i * 13)).block, (ad.add (i * 13)).off + 12, none⟩ = some (.bool e.f4.f5) ∧ e.f4.f4.length ≤ c11 ∧ k40.C w0 A11 e.f4.f4.length e.f4.f4 := by
  obtain ⟨ad, A11, c11, e1, x0, x1, x2, x3, x4, x5, x6, x7, x8, x9, x10, x11, x12, l11, g11⟩ := at_T128 hr (i : Int) (by omega) (by omega)
  have t : ∀ a v, w0.cell? a = some v → W.cell? a = some v := fun a v hx => (hb.cell (World.block_lt_of_cell? w0 _ hx)).trans hx
  rw [Int.toNat_natCast] at *
  subst he
  exact ⟨ad, A11, c11, e1, t _ _ x0, t _ _ x1, t _ _ x2, t _ _ x3, t _ _ x4, t _ _ x5, t _ _ x6, t _ _ x7, t _ _ x8, t _ _ x9, t _ _ x10, t _ _ x11, t _ _ x12, l11, g11⟩
theorem bit_at (D i : Nat) (hD : D < 18446744073709551616) : bits .and .u64 ((D : Int) / 2 ^ i) 1 = if D.testBit i = true then 1 else 0 := by
  have e : ((D : Int) / 2 ^ i) = ((D / 2 ^ i : Nat) : Int) := by rw [Int.natCast_ediv, Int.natCast_pow]; rfl
  have h1 : D / 2 ^ i < 18446744073709551616 := Nat.lt_of_le_of_lt (Nat.div_le_self _ _) hD
  rw [e, show (1 : Int) = ((1 : Nat) : Int) from rfl, (bits_u64 _ 1 h1 (by decide)).1, Nat.and_one_is_mod, Nat.testBit_eq_decide_div_mod_eq]
  by_cases h : D / 2 ^ i % 2 = 1
  · simp [h]
  · have : D / 2 ^ i % 2 = 0 := by omega
    simp [this]
theorem or_at (D i : Nat) (hD : D < 18446744073709551616) (hi : i < 64) : bits .or .u64 (D : Int) (IntKind.u64.wrap (2 ^ i)) = ((D ||| 1 <<< i : Nat) : Int) := by
  have hlt : 2 ^ i < 18446744073709551616 := Nat.pow_lt_pow_right (n := 64) (by decide) hi
  have e1 : ((2 : Int) ^ i) = ((2 ^ i : Nat) : Int) := by rw [Int.natCast_pow]; rfl
  have e : IntKind.u64.wrap ((2 : Int) ^ i) = ((1 <<< i : Nat) : Int) := by
    rw [Nat.one_shiftLeft, e1]
    clear e1
    generalize 2 ^ i = m at *
    simp [IntKind.wrap, IntKind.bits, IntKind.signed]
    omega
  rw [e, (bits_u64 D (1 <<< i) hD (by rw [Nat.one_shiftLeft]; exact hlt)).2]
/-- Whether an event doesn't stand in the way of another one. -/
theorem before_evs (k : Nat) (l : List S128) {i j : Nat} {e f : S128} (hi : l[i]? = some e) (hj : l[j]? = some f) : (stOf k l).before j i = (mustE f && decide (f.f3 < e.f2)) := by
  show Srch.beforeAt _ j i = _
  unfold Srch.beforeAt
  rw [List.getElem?_map, List.getElem?_map, hi, hj]
  rfl
theorem may_evs (k : Nat) (l : List S128) {i : Nat} {e : S128} (hi : l[i]? = some e) : (stOf k l).may i = !noneE e := by
  show Srch.mayAt _ i = _
  unfold Srch.mayAt
  rw [List.getElem?_map, hi]
  rfl
theorem cand_no1 (k : Nat) (l : List S128) {D i : Nat} (h : D.testBit i = true) : ¬ Srch.cand (stOf k l) D i = true := by simp [Srch.cand, h]
theorem cand_no2 (k : Nat) (l : List S128) {D i : Nat} {e : S128} (hi : l[i]? = some e) (h : noneE e = true) : ¬ Srch.cand (stOf k l) D i = true := by simp [Srch.cand, may_evs k l hi, h]
theorem cand_no3 (k : Nat) (l : List S128) {D i j : Nat} (hj : j < l.length) (h1 : D.testBit j = false) (h2 : j ≠ i) (h3 : (stOf k l).before j i = true) : ¬ Srch.cand (stOf k l) D i = true := by
  intro h
  simp only [Srch.cand, Bool.and_eq_true, List.all_eq_true, List.mem_range] at h
  have := h.2 j (by show j < (l.map (evOf k)).length; rw [List.length_map]; exact hj)
  rw [h1, h3] at this
  simp [h2] at this
def nb (k : Nat) (l : List S128) (D i m : Nat) : Prop := D.testBit m = true ∨ m = i ∨ (stOf k l).before m i = false
theorem cand_yes (k : Nat) (l : List S128) {D i : Nat} {e : S128} (hi : l[i]? = some e) (h1 : D.testBit i = false) (h2 : noneE e = false) (h3 : ∀ m, m < l.length → nb k l D i m) : Srch.cand (stOf k l) D i = true := by
  simp only [Srch.cand, Bool.and_eq_true, List.all_eq_true, List.mem_range, may_evs k l hi, h1, h2]
  refine ⟨⟨rfl, rfl⟩, fun m hm => ?_⟩
  rcases h3 m (by have h := hm; rw [show (stOf k l).n = l.length from List.length_map ..] at h; exact h) with h | h | h
  · simp [h]
  · simp [h]
  · simp [h]
section
variable {w0 w : World} {g mb : Nat} {A0 : Option Addr} {n c0 al : Nat} {P0 P1 okq okn : Nat → Prop} {B : Nat} {v v1 : Value} {p : List S40} {seen seen' : List (Nat × List UInt8)} {vo : Value} {so so' : List Nat} {W W' : World}
theorem SF.push (h : SF w0 w g mb A0 n c0 al P0 okq B v p seen vo so W) (hb : Below w0.heap.size w0 W') (hg : W.grownBy W' vo.ownBlock) (hP : ∀ b, P1 b → P0 b ∨ w.heap.size ≤ b) (hvo : ∀ b, vo.ownBlock = some b → P1 b) (hR : Kd.R (Kd.int .i64) 3 W' w0.heap.size P1 v1 (toI so'))
    (hg0 : w0.heap.size ≤ g) (hne : g ≠ mb) (hPg : ¬ P1 g) (hPm : ¬ P1 mb) (hok : ∀ b, okq b → ¬ P1 b ∧ b ≠ g ∧ b ≠ mb) :
    SF w0 w g mb A0 n c0 al P0 okq B v p seen v1 so' (W'.setCell ⟨g, 3, none⟩ v1) ∧ Kd.R (Kd.int .i64) 3 (W'.setCell ⟨g, 3, none⟩ v1) w0.heap.size P1 v1 (toI so') := by
  have hgl : g < W.heap.size := (Array.getElem?_eq_some_iff.1 h.x).1
  have hne' : ∀ b, ¬ P1 b → some b ≠ vo.ownBlock := fun b hb e => hb (hvo b e.symm)
  have hst : ∀ b, b < W.heap.size → ¬ P1 b → b ≠ g → (W'.setCell ⟨g, 3, none⟩ v1).heap[b]? = W.heap[b]? := fun b hl hb hbg => (Below.heap_setCell W' ⟨g, 3, none⟩ v1 b hbg).trans (hg.block b hl (hne' b hb))
  have hR2 : Kd.R (Kd.int .i64) 3 (W'.setCell ⟨g, 3, none⟩ v1) w0.heap.size P1 v1 (toI so') := Kd.R_far (p := ⟨g, 3, none⟩) hR (fun b hb e => hPg (by have e1 : b = g := e; exact e1 ▸ hb)) v1
  refine ⟨⟨below_set hb hg0, ⟨Nat.le_trans h.k.1 (by have := hg.size; simpa [World.setCell] using this), fun i hi hn => ?_⟩, ?_, h.s.keep (hst mb (seen_lt h.s) hPm (Ne.symm hne)), Kd.R_mono hR2 hP, ?_⟩, hR2⟩
  · have h1 : ¬ P1 i := fun hp => by
      rcases hP i hp with h | h
      · exact hn (.inl h)
      · omega
    exact (hst i (Nat.lt_of_lt_of_le hi h.k.1) h1 (fun e => hn (.inr (.inl e)))).trans (h.k.2 i hi hn)
  · exact blk_put ((hg.block g hgl (hne' g hPg)).trans h.x) 3 v1 rfl
  · exact Kd.V_map h.v (fun A hf => Kd.F_step hf (fun b hb hl => hst b hl (hok b hb).1 (hok b hb).2.1))
/-- Behind a search that went on from here. -/
theorem SF.child (h : SF w0 w g mb A0 n c0 al P0 okq B v p seen v1 so W) (hb : Below w0.heap.size w0 W') (hk : Kept W W' (fun b => P1 b ∨ b = g ∨ b = mb)) (hx : W'.heap[g]? = some (.cells (srA A0 n c0 al mb vo) 155 (0, 0))) (hs : SeenAt W' mb seen') (hR : Kd.R (Kd.int .i64) 3 W' w0.heap.size (fun b => P1 b ∨ W.heap.size ≤ b) vo (toI so'))
    (hP : ∀ b, P1 b → P0 b ∨ w.heap.size ≤ b) (hok : ∀ b, okq b → ¬ P1 b ∧ b ≠ g ∧ b ≠ mb) : SF w0 w g mb A0 n c0 al P0 okq B v p seen' vo so' W' := by
  refine ⟨hb, ⟨Nat.le_trans h.k.1 hk.1, fun i hi hn => ?_⟩, hx, hs, Kd.R_mono hR (fun b hb => ?_), Kd.V_map h.v (fun A hf => Kd.F_step hf (fun b hb hl => hk.2 b hl (fun hc => ?_)))⟩
  · refine (hk.2 i (Nat.lt_of_lt_of_le hi h.k.1) (fun hc => ?_)).trans (h.k.2 i hi hn)
    rcases hc with hc | hc
    · rcases hP i hc with h | h
      · exact hn (.inl h)
      · omega
    · exact hn (.inr hc)
  · rcases hb with hb | hb
    · exact hP b hb
    · exact .inr (Nat.le_trans h.k.1 hb)
  · have := hok b hb
    rcases hc with hc | hc | hc
    · exact this.1 hc
    · exact this.2.1 hc
    · exact this.2.2 hc
/-- Without its last one. -/
theorem R_pop {ok : Nat → Prop} {A : Option Addr} {c base : Nat} {xs : List Int} {x : Int} (h : Kd.R (Kd.int .i64) 3 W base ok (.slice A (xs.length + 1) c) (xs ++ [x])) : Kd.R (Kd.int .i64) 3 W base ok (.slice A xs.length c) xs := by
  rw [R_iff (flat_int .i64)] at h ⊢
  obtain ⟨h1, h2, h3⟩ := h
  refine ⟨fun k hk => h1 k (by cases A <;> simp_all [Value.ownBlock]), ⟨by rw [flatMap_length (flat_int .i64)], ?_⟩⟩
  rcases h3 with ⟨e, _⟩ | ⟨g, cap, cur, e, hb, hg, hn, hm, hcs, htk⟩
  · simp at e
  · injection e with e1 e2 e3
    subst e1 e3
    refine .inr ⟨g, c, cur, rfl, hb, hg, by simp at hn; omega, hm, hcs, ?_⟩
    have hl : (xs.flatMap fun x => [Value.int .i64 x]).length = xs.length * 1 := flatMap_length (flat_int .i64) xs
    have := congrArg (fun t => t.take (xs.length * 1)) htk
    simp only [List.take_take, List.flatMap_append] at this
    rw [Nat.min_eq_left (by show xs.length * 1 ≤ (xs ++ [x]).length * 1; simp), List.take_left' hl] at this
    exact this
end
theorem noGoto_ret {Q : Exit → Act → World → Prop} {a : Act} {w : World} (h : Q .ret a w) : Exit.noGoto Q .ret a w := h
theorem find.settle {p : World → Prop} {w : World} (R : World → Prop) (h : R w) (k : ∀ W, R W → p W) : p w := k w h
end Go.Proofs.Ytkoiffkonjpoiaa.Q
