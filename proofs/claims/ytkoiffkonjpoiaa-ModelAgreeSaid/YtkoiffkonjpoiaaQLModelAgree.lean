/- The walk of ModelAgree, by hand: what the law does in memory, told by a plain function; under the contract's own conditions alone. -/
import Derived.Test.YtkoiffkonjpoiaaQA1
import Derived.Test.YtkoiffkonjpoiaaQC3
import Derived.Test.YtkoiffkonjpoiaaQC4
import Derived.Test.YtkoiffkonjpoiaaQ0
namespace Go.Proofs.Ytkoiffkonjpoiaa.Q
open Go.RowKit Go.Proofs.YtkoiffkonjpoiaaW.PrintWords Go.Proofs.YtkoiffkonjpoiaaW.PrintLast Go.Proofs.YtkoiffkonjpoiaaW.PrintMore Go.Proofs.YtkoiffkonjpoiaaX
attribute [local go_sem] max2_int min2_int max_two min_two max_three min_three max_four min_four   -- for this text's walks alone
set_option linter.unusedVariables false
set_option linter.unusedSimpArgs false
theorem ModelAgree.settle {p : World → Prop} {w : World} (R : World → Prop) (h : R w) (k : ∀ W, R W → p W) : p w := k w h
set_option maxHeartbeats 4000000 in
set_option maxRecDepth 100000 in
theorem ModelAgree.ask (k gl : Nat) (A : Option Addr) (c : Nat) (l : List S40) (a0 a1 a2 a3 : Int) (r1 : List S40) (e : Int) (f : Bool) (key val : Int) (ps : List S40) (s : Bool) (w : World) (hr : Kd.C k40 w A l.length l) (hc : l.length ≤ c) (hb : w.heap[gl]? = some (.cells #[.slice A l.length c] 34 (0, 0))) (h : model_Apply.f k l a0 a1 a2 a3 = some (r1, e, f, key, val, ps, s)) :
    Calls Try.prog 76 #[.agg #[.int .u8 a0, .int .i64 a1, .int .i64 a2, .int .i64 a3], .pointer (some ⟨gl, 0, none⟩)] w fun x w' => ∃ (A' : Option Addr) (c' : Nat), x = .returned (.agg #[.int .i64 e, .bool f, .int .i64 key, .int .i64 val, .slice A' ps.length c', .bool s]) ∧ Below w.heap.size w w' := by
  have hu78 := Try.underlying78
  have hu84 := Try.underlying84
  have HR := Lib.hid hr
  have HC := Lib.hid hc
  have HA := Lib.hid h
  have HB := Lib.hid hb
  clear hr hc hb h
  have hgl : gl < w.heap.size := (Array.getElem?_eq_some_iff.1 HB.out).1
  have hd : ∀ X Y, Below w.heap.size w ((w.alloc X).alloc Y) := fun X Y => below_alloc ((Below.refl _ _).alloc (Nat.le_refl _) _) _
  have HD := Lib.hid hd
  clear hd
  go_enter Try.func76, Try.ntmps76
  go_upto_region 1 with (fail)
  refine ModelAgree.settle (p := fun W => Code.wp _ _ _ _ W) (R := fun W => Hid (W.heap[w.heap.size]? = some (.cells #[.int .u8 a0, .int .i64 a1, .int .i64 a2, .int .i64 a3] 78 (0, 0))) ∧ Hid (W.heap[w.heap.size + 1]? = some (.cells #[.int .i64 0, .bool false, .int .i64 0, .int .i64 0, .slice none 0 0, .bool false] 84 (0, 0))) ∧ Hid (Below w.heap.size w W)) ?_ ?_
  · refine ⟨Lib.hid (blk_alloc (heap_alloc_new w _) _), Lib.hid ?_, Lib.hid (HD.out _ _)⟩
    have h := heap_alloc_new (w.alloc (.cells #[.int .u8 a0, .int .i64 a1, .int .i64 a2, .int .i64 a3] 78)) (.cells #[.int .i64 0, .bool false, .int .i64 0, .int .i64 0, .slice none 0 0, .bool false] 84)
    rwa [show (w.alloc (.cells #[.int .u8 a0, .int .i64 a1, .int .i64 a2, .int .i64 a3] 78)).heap.size = w.heap.size + 1 from Array.size_push _] at h
  rintro W ⟨X2, X3, BW⟩
  have y0 : W.cell? ⟨w.heap.size, 0, none⟩ = some (.int .u8 a0) := (blk_cell X2.out 0).trans rfl
  have y1 : W.cell? ⟨w.heap.size, 1, none⟩ = some (.int .i64 a1) := (blk_cell X2.out 1).trans rfl
  have y2 : W.cell? ⟨w.heap.size, 2, none⟩ = some (.int .i64 a2) := (blk_cell X2.out 2).trans rfl
  have y3 : W.cell? ⟨w.heap.size, 3, none⟩ = some (.int .i64 a3) := (blk_cell X2.out 3).trans rfl
  have z0 : W.cell? ⟨gl, 0, none⟩ = some (.slice A l.length c) := (blk_cell (blk_below HB.out BW.out) 0).trans rfl
  go_upto_region 2 with (go_at_call 74; refine (model_Apply.calls k _ _ l a0 a1 a2 a3 r1 e f key val ps s _ ?_ HC.out HA.out).mono ?_; (exact Kd.C_below HR.out BW.out); rintro x w2 ⟨v0, v5, rfl, ho, ho2, hb⟩; obtain ⟨A0, c0, e0⟩ := Kd.R_slice ho; subst e0; obtain ⟨A5, c5, e5⟩ := Kd.R_slice ho2; subst e5; have B2 := Lib.hid hb; clear ho ho2 hb)
  refine ModelAgree.settle (p := fun W => Code.wp _ _ _ _ W) (R := fun V => Hid (V.heap[w2.heap.size]? = some (.cells #[.int .i64 e, .bool f, .int .i64 key, .int .i64 val, .slice A5 ps.length c5, .bool s] 84 (0, 0))) ∧ Hid (V.heap[w.heap.size + 1]? = some (.cells #[.int .i64 0, .bool false, .int .i64 0, .int .i64 0, .slice none 0 0, .bool false] 84 (0, 0))) ∧ Hid (Below w.heap.size w V)) ⟨Lib.hid (heap_alloc_new w2 _), Lib.hid (blk_alloc (blk_below X3.out B2.out) _), Lib.hid (below_alloc (below_step BW.out B2.out) _)⟩ ?_
  have hne : w.heap.size + 1 ≠ w2.heap.size := by
    have h1 := (Array.getElem?_eq_some_iff.1 X3.out).1
    have h2 := B2.out.size
    omega
  clear X2 X3 BW B2 y0 y1 y2 y3 z0
  rintro V ⟨X5, X3, BV⟩
  have p0 : V.cell? ⟨w2.heap.size, 0, none⟩ = some (.int .i64 e) := (blk_cell X5.out 0).trans rfl
  have q0 : V.cell? ⟨w.heap.size + 1, 0, none⟩ = some (.int .i64 0) := (blk_cell X3.out 0).trans rfl
  have r0 := blk_frozen X3.out 0
  have p1 : V.cell? ⟨w2.heap.size, 1, none⟩ = some (.bool f) := (blk_cell X5.out 1).trans rfl
  have q1 : V.cell? ⟨w.heap.size + 1, 1, none⟩ = some (.bool false) := (blk_cell X3.out 1).trans rfl
  have r1' := blk_frozen X3.out 1
  have p2 : V.cell? ⟨w2.heap.size, 2, none⟩ = some (.int .i64 key) := (blk_cell X5.out 2).trans rfl
  have q2 : V.cell? ⟨w.heap.size + 1, 2, none⟩ = some (.int .i64 0) := (blk_cell X3.out 2).trans rfl
  have r2 := blk_frozen X3.out 2
  have p3 : V.cell? ⟨w2.heap.size, 3, none⟩ = some (.int .i64 val) := (blk_cell X5.out 3).trans rfl
  have q3 : V.cell? ⟨w.heap.size + 1, 3, none⟩ = some (.int .i64 0) := (blk_cell X3.out 3).trans rfl
  have r3 := blk_frozen X3.out 3
  have p4 : V.cell? ⟨w2.heap.size, 4, none⟩ = some (.slice A5 ps.length c5) := (blk_cell X5.out 4).trans rfl
  have q4 : V.cell? ⟨w.heap.size + 1, 4, none⟩ = some (.slice none 0 0) := (blk_cell X3.out 4).trans rfl
  have r4 := blk_frozen X3.out 4
  have p5 : V.cell? ⟨w2.heap.size, 5, none⟩ = some (.bool s) := (blk_cell X5.out 5).trans rfl
  have q5 : V.cell? ⟨w.heap.size + 1, 5, none⟩ = some (.bool false) := (blk_cell X3.out 5).trans rfl
  have r5 := blk_frozen X3.out 5
  go_wp2
  refine bodyPost_ret (results_cell_row rfl _ _ (w.heap.size + 1) 84 #[.int .i64 e, .bool f, .int .i64 key, .int .i64 val, .slice A5 ps.length c5, .bool s] (0, 0) _ rfl (blk_put (cs := #[.int .i64 e, .bool f, .int .i64 key, .int .i64 val, .slice A5 ps.length c5, .bool false]) (blk_put (cs := #[.int .i64 e, .bool f, .int .i64 key, .int .i64 val, .slice none 0 0, .bool false]) (blk_put (cs := #[.int .i64 e, .bool f, .int .i64 key, .int .i64 0, .slice none 0 0, .bool false]) (blk_put (cs := #[.int .i64 e, .bool f, .int .i64 0, .int .i64 0, .slice none 0 0, .bool false]) (blk_put (cs := #[.int .i64 e, .bool false, .int .i64 0, .int .i64 0, .slice none 0 0, .bool false]) (blk_put (cs := #[.int .i64 0, .bool false, .int .i64 0, .int .i64 0, .slice none 0 0, .bool false]) X3.out 0 (.int .i64 e) rfl) 1 (.bool f) rfl) 2 (.int .i64 key) rfl) 3 (.int .i64 val) rfl) 4 (.slice A5 ps.length c5) rfl) 5 (.bool s) rfl) Try.underlying84 rfl (by kernel_rfl)) rfl ?_
  exact ⟨A5, c5, rfl, (below_set (below_set (below_set (below_set (below_set (below_set BV.out (Nat.le_succ _)) (Nat.le_succ _)) (Nat.le_succ _)) (Nat.le_succ _)) (Nat.le_succ _)) (Nat.le_succ _))⟩
section
open Go.Proofs.YtkoiffkonjpoiaaW.PrintLast
theorem ModelAgree.goesC {P : Program} {ops : Array Oper} {Q : Exit → Act → World → Prop} {oi : Oper} {N : Option Tmp} {a : Act} {w : World} {K : Act → World → Prop} {f : FuncId} {fn : Func} {ars : Array Operand} {ts : Array TypeId} (o : Operand) (fr : Array Value) (hf : P.funcs[f]? = some fn) (hname : (fn.name == "runtime.NumGoroutine") = false) (hb : fn.body.isSome = true) (args : Array Value)
    (hw : Region.wanted oi (yielded ops a.tmps) = true) (hN : oi.dst = N) (hop : oi.op = .call { callee := .value o, args := ars, argTypes := ts }) (ho : a.eval o = .func (.func f) #[] fr) (hargs : ars.map a.eval = args)
    (h : Calls P f (args ++ fr) w fun e w' => ∃ v, e = .returned v ∧ K (a.put N v) w') : if Region.wanted oi (yielded ops a.tmps) = true then Oper.wp P oi a w K Q else K (a.put N undef) w := by
  refine call_ f (args ++ fr) hw hN ?_ h
  have he := enters_ hf hname hb (args ++ fr) w
  unfold execOp
  simp [hop, resolve, Deferred.ofValue, invoke, ho, hargs, he]
end
theorem ModelAgree.field2 (e : Int) (f : Bool) (key val : Int) (A : Option Addr) (n c : Nat) (s : Bool) (w : World) : (Instr.field 84 (.agg #[.int .i64 e, .bool f, .int .i64 key, .int .i64 val, .slice A n c, .bool s]) 2).run Try.prog w = .ok (.int .i64 key) w := by
  have h2 := Try.underlying2
  obtain ⟨i2, hi2, hz, hs, _⟩ := info_parts info2
  simp [Instr.field, run_underlying Try.underlying84, part, isAgg, asAgg, run_underlying h2, go_sem]
/-- What the law asks, and what it wants of the answers; nothing where they don't fit. -/
def boscagelaw18_ModelAgree.f (k : Nat) (l0 : List Int) (x : Int) : Option Bool := (boscagelaw18_Awake.f k).bind fun t => if t = true then (if (l0.length : Int) < 1 ∨ 50 < (l0.length : Int) then some true else (boscagelaw02_Rising.f k l0).bind fun l => (model_Apply.f k l 7 0 0 0).bind fun G => (model_Apply.f k l 10 (-9223372036854775808) 9223372036854775807 0).bind fun C => (model_Apply.f k l 8 G.2.2.2.1 0 0).bind fun R => (model_Apply.f k l 8 x 0 0).bind fun N => (model_Apply.f k l 5 x 0 0).bind fun U => (model_Apply.f k l 4 x 0 0).bind fun D => (model_Apply.f k l 9 N.2.2.2.1 0 0).bind fun S => (model_Apply.f k l 0 x 0 0).bind fun H =>
  if (l.length < 1000 ∧ C.2.2.2.1 = wrap64 (R.2.2.2.1 + 1) ∧ C.2.2.2.1 = (l.length : Int)) ∧ (U.2.2.1 = S.2.2.1 ∧ U.2.2.2.1 = S.2.2.2.1 ∧ U.2.2.2.2.1 = S.2.2.2.2.1) ∧ (H.2.2.1 = true → D.2.2.2.1 = x ∧ U.2.2.2.1 = x ∧ D.2.2.2.2.1 = H.2.2.2.2.1 ∧ U.2.2.2.2.1 = H.2.2.2.2.1) ∧ (H.2.2.1 = false → (D.2.2.1 = false ∨ D.2.2.2.1 < x) ∧ (U.2.2.1 = false ∨ x < U.2.2.2.1)) then some true else none) else some false
set_option maxHeartbeats 8000000 in
set_option maxRecDepth 100000 in
theorem boscagelaw18_ModelAgree.calls (k : Nat) (A0 : Option Addr) (c0 : Nat) (l0 : List Int) (x : Int) (r : Bool) (w : World) (hr0 : Kd.C (Kd.int .i64) w A0 l0.length l0) (hc0 : l0.length ≤ c0) (h : boscagelaw18_ModelAgree.f k l0 x = some r) :
    Calls Try.prog 23 #[.slice A0 l0.length c0, .int .i64 x] w fun e w' => e = .returned (.bool r) ∧ Below w.heap.size w w' := by
  have hu84 := Try.underlying84
  have hu78 := Try.underlying78
  have HR0 := Lib.hid hr0
  have HC0 := Lib.hid hc0
  clear hr0 hc0
  unfold boscagelaw18_ModelAgree.f at h
  obtain ⟨tA, hA, h⟩ := Option.bind_eq_some_iff.mp h
  have HA := Lib.hid hA
  clear hA
  cases tA with
  | false =>
    rw [if_neg (by decide)] at h
    obtain rfl := Option.some.inj h
    clear h
    go_enter Try.func23, Try.ntmps23
    go_wp2_with (go_at_call 70; refine (boscagelaw18_Awake.calls k false _ HA.out).mono ?_; rintro e w1 ⟨rfl, hb⟩)
    go_ret
    exact ⟨rfl, hb⟩
  | true =>
    rw [if_pos rfl] at h
    by_cases hl : (l0.length : Int) < 1 ∨ 50 < (l0.length : Int)
    · rw [if_pos hl] at h
      obtain rfl := Option.some.inj h
      clear h
      have hl2 : (decide ((l0.length : Int) < 1) = true) ∨ (decide ((l0.length : Int) < 1) = false ∧ decide (50 < (l0.length : Int)) = true) := by
        by_cases g : (l0.length : Int) < 1
        · exact .inl (decide_eq_true g)
        · exact .inr ⟨decide_eq_false g, decide_eq_true (hl.resolve_left g)⟩
      rcases hl2 with g1 | ⟨g1, g2⟩
      · have g1' : decide (l0.length < 1) = true := decide_eq_true (by have := of_decide_eq_true g1; omega)
        have g1'' : l0.length = 0 := by have := of_decide_eq_true g1; omega
        have GG := Lib.hid g1''
        clear hl
        go_enter Try.func23, Try.ntmps23
        go_wp2_with (go_at_call 70; refine (boscagelaw18_Awake.calls k true _ HA.out).mono ?_; rintro e w1 ⟨rfl, hb⟩)
        go_ret
        exact ⟨rfl, hb⟩
      · have g2' : decide (50 < l0.length) = true := decide_eq_true (by have := of_decide_eq_true g2; omega)
        have g1' : decide (l0.length < 1) = false := decide_eq_false (by have := of_decide_eq_false g1; omega)
        clear hl
        go_enter Try.func23, Try.ntmps23
        go_wp2_with (go_at_call 70; refine (boscagelaw18_Awake.calls k true _ HA.out).mono ?_; rintro e w1 ⟨rfl, hb⟩)
        go_ret
        exact ⟨rfl, hb⟩
    · rw [if_neg hl] at h
      have g1 : decide ((l0.length : Int) < 1) = false := decide_eq_false (fun hh => hl (.inl hh))
      have g2 : decide (50 < (l0.length : Int)) = false := decide_eq_false (fun hh => hl (.inr hh))
      have g1' : decide (l0.length < 1) = false := decide_eq_false (by omega)
      have g2' : decide (50 < l0.length) = false := decide_eq_false (by omega)
      have g3 : ¬ (l0.length = 0) := by omega
      clear hl
      obtain ⟨l, hL, h⟩ := Option.bind_eq_some_iff.mp h
      obtain ⟨⟨G1, G2, G3, G4, G5, G6, G7⟩, hG, h⟩ := Option.bind_eq_some_iff.mp h
      obtain ⟨⟨C1, C2, C3, C4, C5, C6, C7⟩, hC, h⟩ := Option.bind_eq_some_iff.mp h
      obtain ⟨⟨R1, R2, R3, R4, R5, R6, R7⟩, hR, h⟩ := Option.bind_eq_some_iff.mp h
      obtain ⟨⟨N1, N2, N3, N4, N5, N6, N7⟩, hN, h⟩ := Option.bind_eq_some_iff.mp h
      obtain ⟨⟨U1, U2, U3, U4, U5, U6, U7⟩, hU, h⟩ := Option.bind_eq_some_iff.mp h
      obtain ⟨⟨D1, D2, D3, D4, D5, D6, D7⟩, hD, h⟩ := Option.bind_eq_some_iff.mp h
      obtain ⟨⟨S1, S2, S3, S4, S5, S6, S7⟩, hS, h⟩ := Option.bind_eq_some_iff.mp h
      obtain ⟨⟨H1, H2, H3, H4, H5, H6, H7⟩, hH, h⟩ := Option.bind_eq_some_iff.mp h
      dsimp only at hR hS h
      split at h
      · rename_i hcond
        obtain ⟨⟨hlen, q1, q2⟩, ⟨q3, q4, q5⟩, q6, q7⟩ := hcond
        obtain rfl := Option.some.inj h
        clear h
        have HL := Lib.hid hL
        have HG := Lib.hid hG
        have HCn := Lib.hid hC
        have HR := Lib.hid hR
        have HN := Lib.hid hN
        have HU := Lib.hid hU
        have HD := Lib.hid hD
        have HS := Lib.hid hS
        have HH := Lib.hid hH
        have T1 := Lib.hid q1
        have T2 := Lib.hid q2
        have T3 := Lib.hid q3
        have T4 := Lib.hid q4
        have T5 := Lib.hid q5
        have T6 := Lib.hid q6
        have T7 := Lib.hid q7
        clear hL hG hC hR hN hU hD hS hH q1 q2 q3 q4 q5 q6 q7
        go_enter Try.func23, Try.ntmps23
        go_upto_region 7 with (first | (go_at_call 70; refine (boscagelaw18_Awake.calls k true _ HA.out).mono ?_; rintro e w1 ⟨rfl, hb⟩; have HB1 := Lib.hid hb; clear hb) | (go_at_call 44; refine (boscagelaw02_Rising.calls k _ _ l0 l _ ?_ HC0.out HL.out).mono ?_; (exact Kd.C_below HR0.out HB1.out); rintro e w2 ⟨vL, rfl, ho, hb⟩; obtain ⟨Al, cl, eL⟩ := Kd.R_slice ho; subst eL; have CL := Lib.hid (Kd.R_reads' ho).2; have HB2 := Lib.hid (below_step HB1.out hb); clear ho hb))
        refine ModelAgree.settle (p := fun W => Code.wp _ _ _ _ W) (R := fun W => Hid (W.heap[w2.heap.size]? = some (.cells #[.slice Al l.length cl] 34 (0, 0))) ∧ Hid (Kd.C k40 W Al l.length l) ∧ Hid (Below w.heap.size w W)) ⟨Lib.hid (heap_alloc_new w2 _), Lib.hid (Kd.C_alloc CL.out.2 _), Lib.hid (below_alloc HB2.out _)⟩ ?_
        rintro wA ⟨X5, LA, BA⟩
        have B0 : Hid (Below wA.heap.size wA wA) := Lib.hid (Below.refl _ _)
        go_upto_region 8 with (go_at_call 76; refine Calls.mono (ModelAgree.ask k w2.heap.size Al cl l 7 0 0 0 G1 G2 G3 G4 G5 G6 G7 _ ?_ CL.out.1 ?_ HG.out) ?_; (exact Kd.C_below LA.out B0.out); (exact blk_below X5.out B0.out); rintro e w3 ⟨AG, cG, rfl, hb⟩; have B3 := Lib.hid hb; clear hb)
        refine ModelAgree.settle (p := fun W => Code.wp _ _ _ _ W) (R := fun W => Hid (W.heap[w3.heap.size]? = some (.cells #[.int .i64 G2, .bool G3, .int .i64 G4, .int .i64 G5, .slice AG G6.length cG, .bool G7] 84 (0, 0))) ∧ Hid (Below wA.heap.size wA W)) ⟨Lib.hid (heap_alloc_new w3 _), Lib.hid (below_alloc B3.out _)⟩ ?_
        clear B3 B0
        rintro wB ⟨X7, BB⟩
        go_upto_region 9 with (go_at_call 76; refine Calls.mono (ModelAgree.ask k w2.heap.size Al cl l 10 (-9223372036854775808) 9223372036854775807 0 C1 C2 C3 C4 C5 C6 C7 _ ?_ CL.out.1 ?_ HCn.out) ?_; (exact Kd.C_below LA.out BB.out); (exact blk_below X5.out BB.out); rintro e w4 ⟨AC, cC, rfl, hb⟩; have B4 := Lib.hid hb; clear hb)
        refine ModelAgree.settle (p := fun W => Code.wp _ _ _ _ W) (R := fun W => Hid (W.heap[w4.heap.size]? = some (.cells #[.int .i64 C2, .bool C3, .int .i64 C4, .int .i64 C5, .slice AC C6.length cC, .bool C7] 84 (0, 0))) ∧ Hid (W.heap[w3.heap.size]? = some (.cells #[.int .i64 G2, .bool G3, .int .i64 G4, .int .i64 G5, .slice AG G6.length cG, .bool G7] 84 (0, 0))) ∧ Hid (Below wA.heap.size wA W)) ⟨Lib.hid (heap_alloc_new w4 _), Lib.hid (blk_alloc (blk_below X7.out B4.out) _), Lib.hid (below_alloc (below_step BB.out B4.out) _)⟩ ?_
        clear B4 BB X7
        rintro wC ⟨X8, X7, BC⟩
        have n0 : wC.cell? ⟨w4.heap.size, 2, none⟩ = some (.int .i64 C4) := (blk_cell X8.out 2).trans rfl
        have n1 : wC.cell? ⟨w3.heap.size, 2, none⟩ = some (.int .i64 G4) := (blk_cell X7.out 2).trans rfl
        have n2 : wC.cell? ⟨w2.heap.size, 0, none⟩ = some (.slice Al l.length cl) := (blk_cell (blk_below X5.out BC.out) 0).trans rfl
        have Q0 : Hid (Below wA.heap.size wA (World.drew wC)) := Lib.hid (below_drew1 BC.out)
        have X8d : Hid ((World.drew wC).heap[w4.heap.size]? = _) := Lib.hid X8.out
        have X7d : Hid ((World.drew wC).heap[w3.heap.size]? = _) := Lib.hid X7.out
        have t1 : (C4 == wrap64 (R4 + 1)) = true := beq_iff_eq.mpr T1.out
        have t2 : (C4 != wrap64 (R4 + 1)) = false := bne_eq_false_iff_eq.mpr T1.out
        have t3 : (C4 == (l.length : Int)) = true := beq_iff_eq.mpr T2.out
        have t4 : (C4 != (l.length : Int)) = false := bne_eq_false_iff_eq.mpr T2.out
        clear X8 X7 BC
        refine start_ (n := 17) (S := fun w' => w'.cell? ⟨w4.heap.size, 2, none⟩ = some (.int .i64 C4) ∧ w'.cell? ⟨w3.heap.size, 2, none⟩ = some (.int .i64 G4) ∧ w'.cell? ⟨w2.heap.size, 0, none⟩ = some (.slice Al l.length cl)) (ds := []) #[false, false, false, false, false, false, false, false, false, false, false, false, false, false, false, false, false] (by kernel_rfl) rfl rfl ⟨n0, n1, n2⟩ (fun hHeld => ?_)
        refine pure_ (i := 0) (N := some 33) (v := ?_) (a' := ?_) #[true, false, false, false, false, false, false, false, false, false, false, false, false, false, false, false, false] rfl rfl (by kernel_rfl) (fun _ _ _ h => h) (Or.inl ⟨by rfl, ?_⟩) ?_ ?_
        rotate_left
        · intro w'
          go_simp
          with_reducible rfl
        rotate_left
        · simp only [Act.put, List.setIfInBounds_toArray, List.set_cons_zero, List.set_cons_succ, i64_w, i32_w]
          rfl
        refine pure_ (i := 2) (N := some 35) (v := ?_) (a' := ?_) #[true, false, true, false, false, false, false, false, false, false, false, false, false, false, false, false, false] rfl rfl (by kernel_rfl) (fun _ _ _ h => h) (Or.inl ⟨by rfl, ?_⟩) ?_ ?_
        rotate_left
        · intro w'
          go_simp
          with_reducible rfl
        rotate_left
        · simp only [Act.put, List.setIfInBounds_toArray, List.set_cons_zero, List.set_cons_succ, i64_w, i32_w]
          rfl
        refine pure_ (i := 3) (N := some 36) (v := ?_) (a' := ?_) #[true, false, true, true, false, false, false, false, false, false, false, false, false, false, false, false, false] rfl rfl (by kernel_rfl) (fun _ _ _ h => h) (Or.inl ⟨by rfl, ?_⟩) ?_ ?_
        rotate_left
        · intro w'
          go_simp
          with_reducible rfl
        rotate_left
        · simp only [Act.put, List.setIfInBounds_toArray, List.set_cons_zero, List.set_cons_succ, i64_w, i32_w]
          rfl
        refine take_ (i := 1) (N := some 34) (v := ?_) (a' := ?_) #[true, true, true, true, false, false, false, false, false, false, false, false, false, false, false, false, false] rfl rfl (by kernel_rfl) (fun _ _ _ h => h) (Or.inl ⟨by rfl, ?_⟩) hHeld ?_ ?_
        rotate_left
        · rintro w' ⟨s0, s1, s2⟩
          go_simp
          with_reducible rfl
        rotate_left
        · simp only [Act.put, List.setIfInBounds_toArray, List.set_cons_zero, List.set_cons_succ, i64_w, i32_w]
          rfl
        refine take_ (i := 4) (N := some 37) (v := ?_) (a' := ?_) #[true, true, true, true, true, false, false, false, false, false, false, false, false, false, false, false, false] rfl rfl (by kernel_rfl) (fun _ _ _ h => h) (Or.inl ⟨by rfl, ?_⟩) hHeld ?_ ?_
        rotate_left
        · rintro w' ⟨s0, s1, s2⟩
          go_simp
          with_reducible rfl
        rotate_left
        · simp only [Act.put, List.setIfInBounds_toArray, List.set_cons_zero, List.set_cons_succ, i64_w, i32_w]
          rfl
        refine pure_ (i := 5) (N := some 38) (v := ?_) (a' := ?_) #[true, true, true, true, true, true, false, false, false, false, false, false, false, false, false, false, false] rfl rfl (by kernel_rfl) (fun _ _ _ h => h) (Or.inl ⟨by rfl, ?_⟩) ?_ ?_
        rotate_left
        · intro w'
          go_simp
          with_reducible rfl
        rotate_left
        · simp only [Act.put, List.setIfInBounds_toArray, List.set_cons_zero, List.set_cons_succ, i64_w, i32_w]
          rfl
        refine one_ (i := 6) (N := some 39) #[true, true, true, true, true, true, true, false, false, false, false, false, false, false, false, false, false] rfl rfl (by kernel_rfl) (by decide) (fun Kq hK => ?_)
        refine ModelAgree.goesC (.tmp 35) #[.pointer (some ⟨w2.heap.size, 0, none⟩)] Try.func76 (by kernel_rfl) rfl #[.agg #[.int .u8 8, .int .i64 G4, .int .i64 0, .int .i64 0]] (by rfl) rfl rfl rfl (by simp only [List.map_toArray, List.map_cons, List.map_nil]; rfl) ?_
        show Calls Try.prog 76 #[.agg #[.int .u8 8, .int .i64 G4, .int .i64 0, .int .i64 0], .pointer (some ⟨w2.heap.size, 0, none⟩)] _ _
        refine Calls.mono (ModelAgree.ask k w2.heap.size Al cl l 8 G4 0 0 R1 R2 R3 R4 R5 R6 R7 _ (Kd.C_below LA.out Q0.out) CL.out.1 (blk_below X5.out Q0.out) HR.out) ?_
        rintro e wR ⟨AR, cR, rfl, hb⟩
        refine ⟨_, rfl, ?_⟩
        have F2 := ModelAgree.field2 R2 R3 R4 R5 AR R6.length cR R7
        have hb_ := Lib.hid hb
        have Q1 := Lib.hid (below_step Q0.out hb)
        have X8r := Lib.hid (blk_below X8d.out hb)
        have X7r := Lib.hid (blk_below X7d.out hb)
        clear hb
        refine hK.out _ _ ⟨((hb_.out.cell (World.block_lt_of_cell? _ _ (hHeld.1))).trans (hHeld.1)), ((hb_.out.cell (World.block_lt_of_cell? _ _ (hHeld.2.1))).trans (hHeld.2.1)), ((hb_.out.cell (World.block_lt_of_cell? _ _ (hHeld.2.2))).trans (hHeld.2.2))⟩ (fun hHeld => ?_)
        clear hK Kq
        refine norm_ (a' := ?_) ?_ ?_
        rotate_left
        · show Act.put _ (some 39) _ = _
          simp only [Act.put, List.setIfInBounds_toArray, List.set_cons_zero, List.set_cons_succ, i64_w, i32_w]
          rfl
        refine pure_ (i := 7) (N := some 40) (v := ?_) (a' := ?_) #[true, true, true, true, true, true, true, true, false, false, false, false, false, false, false, false, false] rfl rfl (by kernel_rfl) (fun _ _ _ h => h) (Or.inl ⟨by rfl, ?_⟩) ?_ ?_
        rotate_left
        · intro w'
          go_simp
          with_reducible rfl
        rotate_left
        · simp only [Act.put, List.setIfInBounds_toArray, List.set_cons_zero, List.set_cons_succ, i64_w, i32_w]
          rfl
        refine pure_ (i := 8) (N := some 41) (v := ?_) (a' := ?_) #[true, true, true, true, true, true, true, true, true, false, false, false, false, false, false, false, false] rfl rfl (by kernel_rfl) (fun _ _ _ h => h) (Or.inl ⟨by rfl, ?_⟩) ?_ ?_
        rotate_left
        · intro w'
          go_simp
          with_reducible rfl
        rotate_left
        · simp only [Act.put, List.setIfInBounds_toArray, List.set_cons_zero, List.set_cons_succ, i64_w, i32_w]
          rfl
        refine pure_ (i := 9) (N := some 42) (v := ?_) (a' := ?_) #[true, true, true, true, true, true, true, true, true, true, false, false, false, false, false, false, false] rfl rfl (by kernel_rfl) (fun _ _ _ h => h) (Or.inl ⟨by rfl, ?_⟩) ?_ ?_
        rotate_left
        · intro w'
          go_simp
          with_reducible rfl
        rotate_left
        · simp only [Act.put, List.setIfInBounds_toArray, List.set_cons_zero, List.set_cons_succ, i64_w, i32_w]
          rfl
        refine pure_ (i := 10) (N := some 43) (v := ?_) (a' := ?_) #[true, true, true, true, true, true, true, true, true, true, true, false, false, false, false, false, false] rfl rfl (by kernel_rfl) (fun _ _ _ h => h) (Or.inl ⟨by rfl, ?_⟩) ?_ ?_
        rotate_left
        · intro w'
          go_simp
          with_reducible rfl
        rotate_left
        · simp only [Act.put, List.setIfInBounds_toArray, List.set_cons_zero, List.set_cons_succ, i64_w, i32_w]
          rfl
        refine pure_ (i := 11) (N := some 44) (v := ?_) (a' := ?_) #[true, true, true, true, true, true, true, true, true, true, true, true, false, false, false, false, false] rfl rfl (by kernel_rfl) (fun _ _ _ h => h) (Or.inl ⟨by rfl, ?_⟩) ?_ ?_
        rotate_left
        · intro w'
          go_simp
          with_reducible rfl
        rotate_left
        · simp only [Act.put, List.setIfInBounds_toArray, List.set_cons_zero, List.set_cons_succ, i64_w, i32_w]
          rfl
        refine take_ (i := 12) (N := some 45) (v := ?_) (a' := ?_) #[true, true, true, true, true, true, true, true, true, true, true, true, true, false, false, false, false] rfl rfl (by kernel_rfl) (fun _ _ _ h => h) (Or.inl ⟨by rfl, ?_⟩) hHeld ?_ ?_
        rotate_left
        · rintro w' ⟨s0, s1, s2⟩
          go_simp
          with_reducible rfl
        rotate_left
        · simp only [Act.put, List.setIfInBounds_toArray, List.set_cons_zero, List.set_cons_succ, i64_w, i32_w]
          rfl
        refine take_ (i := 13) (N := some 46) (v := ?_) (a' := ?_) #[true, true, true, true, true, true, true, true, true, true, true, true, true, true, false, false, false] rfl rfl (by kernel_rfl) (fun _ _ _ h => h) (Or.inl ⟨by rfl, ?_⟩) hHeld ?_ ?_
        rotate_left
        · rintro w' ⟨s0, s1, s2⟩
          go_simp
          with_reducible rfl
        rotate_left
        · simp only [Act.put, List.setIfInBounds_toArray, List.set_cons_zero, List.set_cons_succ, i64_w, i32_w]
          rfl
        refine pure_ (i := 14) (N := some 47) (v := ?_) (a' := ?_) #[true, true, true, true, true, true, true, true, true, true, true, true, true, true, true, false, false] rfl rfl (by kernel_rfl) (fun _ _ _ h => h) (Or.inl ⟨by rfl, ?_⟩) ?_ ?_
        rotate_left
        · intro w'
          go_simp
          with_reducible rfl
        rotate_left
        · simp only [Act.put, List.setIfInBounds_toArray, List.set_cons_zero, List.set_cons_succ, i64_w, i32_w]
          rfl
        refine pure_ (i := 15) (N := some 48) (v := ?_) (a' := ?_) #[true, true, true, true, true, true, true, true, true, true, true, true, true, true, true, true, false] rfl rfl (by kernel_rfl) (fun _ _ _ h => h) (Or.inl ⟨by rfl, ?_⟩) ?_ ?_
        rotate_left
        · intro w'
          go_simp
          with_reducible rfl
        rotate_left
        · simp only [Act.put, List.setIfInBounds_toArray, List.set_cons_zero, List.set_cons_succ, i64_w, i32_w]
          rfl
        refine pure_ (i := 16) (N := some 49) (v := ?_) (a' := ?_) #[true, true, true, true, true, true, true, true, true, true, true, true, true, true, true, true, true] rfl rfl (by kernel_rfl) (fun _ _ _ h => h) (Or.inl ⟨by rfl, ?_⟩) ?_ ?_
        rotate_left
        · intro w'
          go_simp
          with_reducible rfl
        rotate_left
        · simp only [Act.put, List.setIfInBounds_toArray, List.set_cons_zero, List.set_cons_succ, i64_w, i32_w]
          rfl
        refine done_ (by kernel_rfl) ?_
        go_upto_region 11 with (fail)
        clear n0 n1 n2 X8r X7r hb_ F2 t1 t2 t3 t4
        go_upto_region 12 with (go_at_call 76; refine Calls.mono (ModelAgree.ask k w2.heap.size Al cl l 8 x 0 0 N1 N2 N3 N4 N5 N6 N7 _ ?_ CL.out.1 ?_ HN.out) ?_; (exact Kd.C_below LA.out Q1.out); (exact blk_below X5.out Q1.out); rintro e wN ⟨AN, cN, rfl, hb⟩; have F3 := ModelAgree.field2 N2 N3 N4 N5 AN N6.length cN N7; have Q2 := Lib.hid (below_step Q1.out hb); clear hb)
        clear F3
        go_upto_region 13 with (go_at_call 76; first | (with_reducible refine Calls.mono (ModelAgree.ask k w2.heap.size Al cl l 5 x 0 0 U1 U2 U3 U4 U5 U6 U7 _ ?_ CL.out.1 ?_ HU.out) ?_; (exact Kd.C_below LA.out Q2.out); (exact blk_below X5.out Q2.out); rintro e wU ⟨AU, cU, rfl, hb⟩; have Q3 := Lib.hid (below_step Q2.out hb); clear hb) | (with_reducible refine Calls.mono (ModelAgree.ask k w2.heap.size Al cl l 4 x 0 0 D1 D2 D3 D4 D5 D6 D7 _ ?_ CL.out.1 ?_ HD.out) ?_; (exact Kd.C_below LA.out Q3.out); (exact blk_below X5.out Q3.out); rintro e wV ⟨AD, cD, rfl, hb⟩; have Q4 := Lib.hid (below_step Q3.out hb); clear hb))
        refine ModelAgree.settle (p := fun W => Code.wp _ _ _ _ W) (R := fun W => Hid (W.heap[wV.heap.size]? = some (.cells #[.int .i64 U2, .bool U3, .int .i64 U4, .int .i64 U5, .slice AU U6.length cU, .bool U7] 84 (0, 0))) ∧ Hid (W.heap[wV.heap.size + 1]? = some (.cells #[.int .i64 D2, .bool D3, .int .i64 D4, .int .i64 D5, .slice AD D6.length cD, .bool D7] 84 (0, 0))) ∧ Hid (Below wA.heap.size wA W)) ?_ ?_
        · refine ⟨Lib.hid (blk_alloc (heap_alloc_new wV _) _), Lib.hid ?_, Lib.hid (below_alloc (below_alloc Q4.out _) _)⟩
          have h := heap_alloc_new (wV.alloc (.cells #[.int .i64 U2, .bool U3, .int .i64 U4, .int .i64 U5, .slice AU U6.length cU, .bool U7] 84)) (.cells #[.int .i64 D2, .bool D3, .int .i64 D4, .int .i64 D5, .slice AD D6.length cD, .bool D7] 84)
          rwa [show (wV.alloc (.cells #[.int .i64 U2, .bool U3, .int .i64 U4, .int .i64 U5, .slice AU U6.length cU, .bool U7] 84)).heap.size = wV.heap.size + 1 from Array.size_push _] at h
        clear Q0 Q1 Q2 Q3 Q4
        rintro wW ⟨X10, X11, BW⟩
        go_upto_region 14 with (go_at_call 76; refine Calls.mono (ModelAgree.ask k w2.heap.size Al cl l 9 N4 0 0 S1 S2 S3 S4 S5 S6 S7 _ ?_ CL.out.1 ?_ HS.out) ?_; (exact Kd.C_below LA.out BW.out); (exact blk_below X5.out BW.out); rintro e wS ⟨AS, cS, rfl, hb⟩; have Q5 := Lib.hid (below_step BW.out hb); have X10' := Lib.hid (blk_below X10.out hb); have X11' := Lib.hid (blk_below X11.out hb); clear hb)
        refine ModelAgree.settle (p := fun W => Code.wp _ _ _ _ W) (R := fun W => Hid (W.heap[wV.heap.size]? = some (.cells #[.int .i64 U2, .bool U3, .int .i64 U4, .int .i64 U5, .slice AU U6.length cU, .bool U7] 84 (0, 0))) ∧ Hid (W.heap[wV.heap.size + 1]? = some (.cells #[.int .i64 D2, .bool D3, .int .i64 D4, .int .i64 D5, .slice AD D6.length cD, .bool D7] 84 (0, 0))) ∧ Hid (W.heap[wS.heap.size]? = some (.cells #[.int .i64 S2, .bool S3, .int .i64 S4, .int .i64 S5, .slice AS S6.length cS, .bool S7] 84 (0, 0))) ∧ Hid (Below wA.heap.size wA W)) ⟨Lib.hid (blk_alloc X10'.out _), Lib.hid (blk_alloc X11'.out _), Lib.hid (heap_alloc_new wS _), Lib.hid (below_alloc Q5.out _)⟩ ?_
        clear Q5 X10 X11 X10' X11' BW
        rintro wX ⟨X10, X11, X12, BW⟩
        go_upto_region 15 with (go_at_call 76; refine Calls.mono (ModelAgree.ask k w2.heap.size Al cl l 0 x 0 0 H1 H2 H3 H4 H5 H6 H7 _ ?_ CL.out.1 ?_ HH.out) ?_; (exact Kd.C_below LA.out BW.out); (exact blk_below X5.out BW.out); rintro e wH ⟨AH, cH, rfl, hb⟩; have Q5 := Lib.hid (below_step BW.out hb); have X10' := Lib.hid (blk_below X10.out hb); have X11' := Lib.hid (blk_below X11.out hb); have X12' := Lib.hid (blk_below X12.out hb); clear hb)
        refine ModelAgree.settle (p := fun W => Code.wp _ _ _ _ W) (R := fun W => Hid (W.heap[wV.heap.size]? = some (.cells #[.int .i64 U2, .bool U3, .int .i64 U4, .int .i64 U5, .slice AU U6.length cU, .bool U7] 84 (0, 0))) ∧ Hid (W.heap[wV.heap.size + 1]? = some (.cells #[.int .i64 D2, .bool D3, .int .i64 D4, .int .i64 D5, .slice AD D6.length cD, .bool D7] 84 (0, 0))) ∧ Hid (W.heap[wS.heap.size]? = some (.cells #[.int .i64 S2, .bool S3, .int .i64 S4, .int .i64 S5, .slice AS S6.length cS, .bool S7] 84 (0, 0))) ∧ Hid (W.heap[wH.heap.size]? = some (.cells #[.int .i64 H2, .bool H3, .int .i64 H4, .int .i64 H5, .slice AH H6.length cH, .bool H7] 84 (0, 0))) ∧ Hid (Below wA.heap.size wA W)) ⟨Lib.hid (blk_alloc X10'.out _), Lib.hid (blk_alloc X11'.out _), Lib.hid (blk_alloc X12'.out _), Lib.hid (heap_alloc_new wH _), Lib.hid (below_alloc Q5.out _)⟩ ?_
        clear Q5 X10 X11 X12 X10' X11' X12' BW
        rintro wY ⟨X10, X11, X12, X13, BW⟩
        have u1_ : wY.cell? ⟨wV.heap.size, 1, none⟩ = some (.bool U3) := (blk_cell X10.out 1).trans rfl
        have u2_ : wY.cell? ⟨wV.heap.size, 2, none⟩ = some (.int .i64 U4) := (blk_cell X10.out 2).trans rfl
        have u3_ : wY.cell? ⟨wV.heap.size, 3, none⟩ = some (.int .i64 U5) := (blk_cell X10.out 3).trans rfl
        have d1_ : wY.cell? ⟨wV.heap.size + 1, 1, none⟩ = some (.bool D3) := (blk_cell X11.out 1).trans rfl
        have d2_ : wY.cell? ⟨wV.heap.size + 1, 2, none⟩ = some (.int .i64 D4) := (blk_cell X11.out 2).trans rfl
        have d3_ : wY.cell? ⟨wV.heap.size + 1, 3, none⟩ = some (.int .i64 D5) := (blk_cell X11.out 3).trans rfl
        have s1_ : wY.cell? ⟨wS.heap.size, 1, none⟩ = some (.bool S3) := (blk_cell X12.out 1).trans rfl
        have s2_ : wY.cell? ⟨wS.heap.size, 2, none⟩ = some (.int .i64 S4) := (blk_cell X12.out 2).trans rfl
        have s3_ : wY.cell? ⟨wS.heap.size, 3, none⟩ = some (.int .i64 S5) := (blk_cell X12.out 3).trans rfl
        have h1_ : wY.cell? ⟨wH.heap.size, 1, none⟩ = some (.bool H3) := (blk_cell X13.out 1).trans rfl
        have h2_ : wY.cell? ⟨wH.heap.size, 2, none⟩ = some (.int .i64 H4) := (blk_cell X13.out 2).trans rfl
        have h3_ : wY.cell? ⟨wH.heap.size, 3, none⟩ = some (.int .i64 H5) := (blk_cell X13.out 3).trans rfl
        have FIN : Hid (Below w.heap.size w wY) := Lib.hid (below_step BA.out BW.out)
        have o1 : U3 = S3 := T3.out
        have o2 : U4 = S4 := T4.out
        have o3 : U5 = S5 := T5.out
        subst o1 o2 o3
        clear X10 X11 X12 X13 BW BA T1 T2 T3 T4 T5 LA X5 CL
        cases H3 with
        | true =>
          obtain ⟨p1, p2, p3, p4⟩ := T6.out rfl
          have a1 : (D4 == x) = true := beq_iff_eq.mpr p1
          have a2 : (U4 == x) = true := beq_iff_eq.mpr p2
          have a3 : (D5 == H5) = true := beq_iff_eq.mpr p3
          have a4 : (U5 == H5) = true := beq_iff_eq.mpr p4
          clear p1 p2 p3 p4 T6 T7
          go_wp2
          go_ret
          exact ⟨rfl, FIN.out⟩
        | false =>
          obtain ⟨p1, p2⟩ := T7.out rfl
          clear T6 T7
          cases D3 with
          | false =>
            cases U3 with
            | false =>
              clear p1 p2
              go_wp2
              go_ret
              exact ⟨rfl, FIN.out⟩
            | true =>
              have a2 : decide (x < U4) = true := decide_eq_true (p2.resolve_left (by decide))
              clear p1 p2
              go_wp2
              go_ret
              exact ⟨rfl, FIN.out⟩
          | true =>
            have a1 : decide (D4 < x) = true := decide_eq_true (p1.resolve_left (by decide))
            cases U3 with
            | false =>
              clear p1 p2
              go_wp2
              go_ret
              exact ⟨rfl, FIN.out⟩
            | true =>
              have a2 : decide (x < U4) = true := decide_eq_true (p2.resolve_left (by decide))
              clear p1 p2
              go_wp2
              go_ret
              exact ⟨rfl, FIN.out⟩
      · cases h
end Go.Proofs.Ytkoiffkonjpoiaa.Q
