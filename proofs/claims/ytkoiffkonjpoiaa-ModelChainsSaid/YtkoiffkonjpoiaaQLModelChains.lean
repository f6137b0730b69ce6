/- The walk of ModelChains, by hand: what the law does in memory, told by a plain function; under the contract's own conditions alone. -/
import Derived.Test.YtkoiffkonjpoiaaQA1
import Derived.Test.YtkoiffkonjpoiaaQA2
import Derived.Test.YtkoiffkonjpoiaaQC3
import Derived.Test.YtkoiffkonjpoiaaQC4
import Derived.Test.YtkoiffkonjpoiaaQC5
import Derived.Test.YtkoiffkonjpoiaaQC8
import Derived.Test.YtkoiffkonjpoiaaQ0
namespace Go.Proofs.Ytkoiffkonjpoiaa.Q
open Go.RowKit Go.Proofs.YtkoiffkonjpoiaaW.PrintWords Go.Proofs.YtkoiffkonjpoiaaW.PrintLast Go.Proofs.YtkoiffkonjpoiaaW.PrintMore Go.Proofs.YtkoiffkonjpoiaaX
attribute [local go_sem] max2_int min2_int max_two min_two max_three min_three max_four min_four   -- for this text's walks alone
set_option linter.unusedVariables false
set_option linter.unusedSimpArgs false
/-- One operation behind the other, on the code's map and on the document's; nothing where they part. -/
def ModelChains.go (k : Nat) : List S40 → List S40 → List S78 → Option Bool
  | _, _, [] => some true
  | L, M, o :: os => (model_Apply.f k L o.f0 o.f1 o.f2 o.f3).bind fun a => (boscagelaw18_Apply.f k M o.f0 o.f1 o.f2 o.f3).bind fun b => (boscagelaw18_Same.f k a.2.1 a.2.2.1 a.2.2.2.1 a.2.2.2.2.1 a.2.2.2.2.2.1 a.2.2.2.2.2.2 b.2.1 b.2.2.1 b.2.2.2.1 b.2.2.2.2.1 b.2.2.2.2.2.1 b.2.2.2.2.2.2).bind fun s => (boscagelaw02_Same.f k a.1 b.1).bind fun t => if s = true ∧ t = true then ModelChains.go k a.1 b.1 os else none
theorem ModelChains.go_true (k : Nat) : ∀ (os : List S78) (L M : List S40) (r : Bool), ModelChains.go k L M os = some r → r = true
  | [], _, _, r, h => by simpa [ModelChains.go] using h.symm
  | o :: os, L, M, r, h => by
    simp only [ModelChains.go] at h
    obtain ⟨a, _, h⟩ := Option.bind_eq_some_iff.mp h
    obtain ⟨b, _, h⟩ := Option.bind_eq_some_iff.mp h
    obtain ⟨s, _, h⟩ := Option.bind_eq_some_iff.mp h
    obtain ⟨t, _, h⟩ := Option.bind_eq_some_iff.mp h
    split at h
    · exact ModelChains.go_true k os _ _ r h
    · cases h
def boscagelaw18_ModelChains.f (k : Nat) (l0 : List Int) (l1 : List S78) : Option Bool := (boscagelaw18_Awake.f k).bind fun t => if t = true then (if 30 < (l0.length : Int) ∨ 40 < (l1.length : Int) then some true else (boscagelaw02_Rising.f k l0).bind fun L => ModelChains.go k L L l1) else some false
theorem ModelChains.put6 {w0 W : World} {g : Nat} {x0 x1 x2 x3 x4 x5 y0 y1 y2 y3 y4 y5 : Value} (hb : w0.heap.size ≤ g) (h : W.heap[g]? = some (.cells #[x0, x1, x2, x3, x4, x5] 84 (0, 0))) (HB : Below w0.heap.size w0 W) :
    ((((((W.setCell ⟨g, 0, none⟩ y0).setCell ⟨g, 1, none⟩ y1).setCell ⟨g, 2, none⟩ y2).setCell ⟨g, 3, none⟩ y3).setCell ⟨g, 4, none⟩ y4).setCell ⟨g, 5, none⟩ y5).heap[g]? = some (.cells #[y0, y1, y2, y3, y4, y5] 84 (0, 0)) ∧
    Below w0.heap.size w0 ((((((W.setCell ⟨g, 0, none⟩ y0).setCell ⟨g, 1, none⟩ y1).setCell ⟨g, 2, none⟩ y2).setCell ⟨g, 3, none⟩ y3).setCell ⟨g, 4, none⟩ y4).setCell ⟨g, 5, none⟩ y5) ∧
    (∀ g' o, g' ≠ g → W.heap[g']? = some o → ((((((W.setCell ⟨g, 0, none⟩ y0).setCell ⟨g, 1, none⟩ y1).setCell ⟨g, 2, none⟩ y2).setCell ⟨g, 3, none⟩ y3).setCell ⟨g, 4, none⟩ y4).setCell ⟨g, 5, none⟩ y5).heap[g']? = some o) ∧
    (∀ (B : Nat) (ok : Nat → Prop) (v : Value) (xs : List S40), Kd.R k40 40 W B ok v xs → Kd.R k40 40 ((((((W.setCell ⟨g, 0, none⟩ y0).setCell ⟨g, 1, none⟩ y1).setCell ⟨g, 2, none⟩ y2).setCell ⟨g, 3, none⟩ y3).setCell ⟨g, 4, none⟩ y4).setCell ⟨g, 5, none⟩ y5) B ok v xs) := by
  refine ⟨?_, ?_, fun g' o hne ho => ?_, fun B ok v xs HO => ?_⟩
  · exact blk_put (cs := #[y0, y1, y2, y3, y4, x5]) (blk_put (cs := #[y0, y1, y2, y3, x4, x5]) (blk_put (cs := #[y0, y1, y2, x3, x4, x5]) (blk_put (cs := #[y0, y1, x2, x3, x4, x5]) (blk_put (cs := #[y0, x1, x2, x3, x4, x5]) (blk_put (cs := #[x0, x1, x2, x3, x4, x5]) h 0 _ rfl) 1 _ rfl) 2 _ rfl) 3 _ rfl) 4 _ rfl) 5 _ rfl
  · exact below_set (below_set (below_set (below_set (below_set (below_set HB hb) hb) hb) hb) hb) hb
  · have e : ∀ (X : World) (i : Nat) (u : Value), X.heap[g']? = some o → (X.setCell ⟨g, i, none⟩ u).heap[g']? = some o := fun X i u hX => (Below.heap_setCell X _ u g' hne).trans hX
    exact e _ _ _ (e _ _ _ (e _ _ _ (e _ _ _ (e _ _ _ (e _ _ _ ho)))))
  · exact Kd.R_mono (Kd.R_far (p := ⟨g, 5, none⟩) (Kd.R_far (p := ⟨g, 4, none⟩) (Kd.R_far (p := ⟨g, 3, none⟩) (Kd.R_far (p := ⟨g, 2, none⟩) (Kd.R_far (p := ⟨g, 1, none⟩) (Kd.R_far (p := ⟨g, 0, none⟩) (Kd.R_types HO h (by decide)) (fun _ hk => hk.2) y0) (fun _ hk => hk.2) y1) (fun _ hk => hk.2) y2) (fun _ hk => hk.2) y3) (fun _ hk => hk.2) y4) (fun _ hk => hk.2) y5) (fun _ hk => hk.1)
theorem ModelChains.settle {p : World → Prop} {w : World} (R : World → Prop) (h : R w) (k : ∀ W, R W → p W) : p w := k w h
set_option maxHeartbeats 8000000 in
set_option maxRecDepth 100000 in
theorem boscagelaw18_ModelChains.calls (k : Nat) (A0 : Option Addr) (c0 : Nat) (l0 : List Int) (A1 : Option Addr) (c1 : Nat) (l1 : List S78) (r : Bool) (w : World) (hr0 : Kd.C (Kd.int .i64) w A0 l0.length l0) (hc0 : l0.length ≤ c0) (hr1 : Kd.C k78 w A1 l1.length l1) (hc1 : l1.length ≤ c1) (h : boscagelaw18_ModelChains.f k l0 l1 = some r) :
    Calls Try.prog 22 #[.slice A0 l0.length c0, .slice A1 l1.length c1] w fun e w' => e = .returned (.bool r) ∧ Below w.heap.size w w' := by
  have hu84 := Try.underlying84
  have hu78 := Try.underlying78
  have HR0 := Lib.hid hr0
  have HC0 := Lib.hid hc0
  have HR1 := Lib.hid hr1
  have HC1 := Lib.hid hc1
  clear hr0 hc0 hr1 hc1
  unfold boscagelaw18_ModelChains.f at h
  obtain ⟨tA, hA, h⟩ := Option.bind_eq_some_iff.mp h
  have HA := Lib.hid hA
  clear hA
  cases tA with
  | false =>
    rw [if_neg (by decide)] at h
    obtain rfl := Option.some.inj h
    clear h
    go_enter Try.func22, Try.ntmps22
    go_wp2_with (go_at_call 70; refine (boscagelaw18_Awake.calls k false _ HA.out).mono ?_; rintro e w1 ⟨rfl, hb⟩)
    go_ret
    exact ⟨rfl, hb⟩
  | true =>
    rw [if_pos rfl] at h
    by_cases hl : 30 < (l0.length : Int) ∨ 40 < (l1.length : Int)
    · rw [if_pos hl] at h
      obtain rfl := Option.some.inj h
      clear h
      have hl2 : (decide (30 < (l0.length : Int)) = true) ∨ (decide (30 < (l0.length : Int)) = false ∧ decide (40 < (l1.length : Int)) = true) := by
        by_cases g : 30 < (l0.length : Int)
        · exact .inl (decide_eq_true g)
        · exact .inr ⟨decide_eq_false g, decide_eq_true (hl.resolve_left g)⟩
      rcases hl2 with g1 | ⟨g1, g2⟩
      · have g1' : decide (30 < l0.length) = true := decide_eq_true (by have := of_decide_eq_true g1; omega)
        clear hl
        go_enter Try.func22, Try.ntmps22
        go_wp2_with (go_at_call 70; refine (boscagelaw18_Awake.calls k true _ HA.out).mono ?_; rintro e w1 ⟨rfl, hb⟩)
        go_ret
        exact ⟨rfl, hb⟩
      · have g2' : decide (40 < l1.length) = true := decide_eq_true (by have := of_decide_eq_true g2; omega)
        have g1' : decide (30 < l0.length) = false := decide_eq_false (by have := of_decide_eq_false g1; omega)
        clear hl
        go_enter Try.func22, Try.ntmps22
        go_wp2_with (go_at_call 70; refine (boscagelaw18_Awake.calls k true _ HA.out).mono ?_; rintro e w1 ⟨rfl, hb⟩)
        go_ret
        exact ⟨rfl, hb⟩
    · rw [if_neg hl] at h
      have g1 : decide (30 < (l0.length : Int)) = false := decide_eq_false (fun hh => hl (.inl hh))
      have g2 : decide (40 < (l1.length : Int)) = false := decide_eq_false (fun hh => hl (.inr hh))
      have g1' : decide (30 < l0.length) = false := decide_eq_false (by omega)
      have g2' : decide (40 < l1.length) = false := decide_eq_false (by omega)
      have hm1 : l1.length ≤ 40 := by omega
      clear hl
      obtain ⟨L, hL, h⟩ := Option.bind_eq_some_iff.mp h
      have HL := Lib.hid hL
      have HG := Lib.hid h
      clear hL h
      go_enter Try.func22, Try.ntmps22
      go_upto_block 0 with (first | (go_at_call 70; refine (boscagelaw18_Awake.calls k true _ HA.out).mono ?_; rintro e w1 ⟨rfl, hb⟩; have HB1 := Lib.hid hb; clear hb) | (go_at_call 44; refine (boscagelaw02_Rising.calls k _ _ l0 L _ ?_ HC0.out HL.out).mono ?_; (exact Kd.C_below HR0.out HB1.out); rintro e w2 ⟨vL, rfl, ho, hb⟩; obtain ⟨Al, cl, eL⟩ := Kd.R_slice ho; subst eL; have CL := Lib.hid (Kd.R_reads' ho).2; have HB2 := Lib.hid (below_step HB1.out hb); clear ho hb))
      obtain rfl := ModelChains.go_true k l1 L L r HG.out
      go_wp2_with fail
      go_loopg [26, 5, 6] l1.length (fun gk v26 v5 v6 W => ∃ (i : Nat) (Ln Lw : List S40) (An Aw : Option Addr) (cn cw : Nat), v26 = .int .i64 (i : Int) ∧ v5 = .slice An Ln.length cn ∧ v6 = .slice Aw Lw.length cw ∧ i ≤ l1.length ∧ l1.length - i ≤ gk ∧ Hid (ModelChains.go k Ln Lw (l1.drop i) = some true) ∧ Hid (Kd.C k40 W An Ln.length Ln ∧ Ln.length ≤ cn) ∧ Hid (Kd.C k40 W Aw Lw.length Lw ∧ Lw.length ≤ cw) ∧ Hid (Below w.heap.size w W))
      case atStart => exact ⟨0, L, L, Al, Al, cl, cl, rfl, rfl, rfl, by omega, by omega, HG, Lib.hid ⟨CL.out.2, CL.out.1⟩, Lib.hid ⟨CL.out.2, CL.out.1⟩, HB2⟩
      case round =>
        clear HG HB2 CL
        obtain ⟨i, Ln, Lw, An, Aw, cn, cw, rfl, rfl, rfl, hi1, hgk, HG, HCn, HCw, HB⟩ := hrel
        by_cases hi : i < l1.length
        · obtain ⟨o, ho⟩ : ∃ o, o = rd_T78 l1 (i : Int) := ⟨_, rfl⟩
          have hdrop : l1.drop i = o :: l1.drop (i + 1) := by
            rw [List.drop_eq_getElem_cons hi, ho]
            simp [rd_T78, hi]
          have h := HG.out
          rw [hdrop] at h
          simp only [ModelChains.go] at h
          obtain ⟨⟨a1, a2, a3, a4, a5, a6, a7⟩, ha, h⟩ := Option.bind_eq_some_iff.mp h
          obtain ⟨⟨b1, b2, b3, b4, b5, b6, b7⟩, hb, h⟩ := Option.bind_eq_some_iff.mp h
          obtain ⟨sS, hS, h⟩ := Option.bind_eq_some_iff.mp h
          obtain ⟨tS, hT, h⟩ := Option.bind_eq_some_iff.mp h
          split at h
          · rename_i hst
            obtain ⟨rfl, rfl⟩ := hst
            have HGa := Lib.hid ha
            have HGb := Lib.hid hb
            have HGs := Lib.hid hS
            have HGt := Lib.hid hT
            have HGn := Lib.hid (show ModelChains.go k a1 b1 (l1.drop (i + 1)) = some true by assumption)
            obtain ⟨ad, e1, x0, x1, x2, x3⟩ := at_T78 (Kd.C_below HR1.out HB.out) (i : Int) (by omega) (by omega)
            rw [← ho, Int.toNat_natCast] at x0
            rw [← ho, Int.toNat_natCast] at x1
            rw [← ho, Int.toNat_natCast] at x2
            rw [← ho, Int.toNat_natCast] at x3
            clear ha hb hS hT h hdrop HG
            cases e1
            have hid : decide ((i : Int) < (l1.length : Int)) = true := decide_eq_true (by omega)
            have hiw : IntKind.i64.wrap ((i : Int) + 1) = (i : Int) + 1 := by rw [IntKind.wrap_i64]; omega
            have HO := Lib.hid ho
            clear ho
            go_upto_region 11 with (fail)
            have h3 : ∀ X Y Z, Below wr.heap.size wr (((wr.alloc X).alloc Y).alloc Z) := fun X Y Z => below_alloc (below_alloc ((Below.refl _ _).alloc (Nat.le_refl _) _) _) _
            refine ModelChains.settle (p := fun W => Code.wp _ _ _ _ W) (R := fun W => Hid (W.heap[wr.heap.size]? = some (.cells #[.int .u8 o.f0, .int .i64 o.f1, .int .i64 o.f2, .int .i64 o.f3] 78 (0, 0))) ∧ Hid (W.heap[wr.heap.size + 1]? = some (.cells #[.int .i64 0, .bool false, .int .i64 0, .int .i64 0, .slice none 0 0, .bool false] 84 (0, 0))) ∧ Hid (W.heap[wr.heap.size + 1 + 1]? = some (.cells #[.int .i64 0, .bool false, .int .i64 0, .int .i64 0, .slice none 0 0, .bool false] 84 (0, 0))) ∧ Hid (Below wr.heap.size wr W)) ?_ ?_
            · refine ⟨Lib.hid (blk_alloc (blk_alloc (heap_alloc_new wr _) _) _), Lib.hid (blk_alloc ?_ _), Lib.hid ?_, Lib.hid (h3 _ _ _)⟩
              · have h := heap_alloc_new (wr.alloc (.cells #[.int .u8 o.f0, .int .i64 o.f1, .int .i64 o.f2, .int .i64 o.f3] 78)) (.cells #[.int .i64 0, .bool false, .int .i64 0, .int .i64 0, .slice none 0 0, .bool false] 84)
                rwa [show (wr.alloc (.cells #[.int .u8 o.f0, .int .i64 o.f1, .int .i64 o.f2, .int .i64 o.f3] 78)).heap.size = wr.heap.size + 1 from Array.size_push _] at h
              · have h := heap_alloc_new ((wr.alloc (.cells #[.int .u8 o.f0, .int .i64 o.f1, .int .i64 o.f2, .int .i64 o.f3] 78)).alloc (.cells #[.int .i64 0, .bool false, .int .i64 0, .int .i64 0, .slice none 0 0, .bool false] 84)) (.cells #[.int .i64 0, .bool false, .int .i64 0, .int .i64 0, .slice none 0 0, .bool false] 84)
                rwa [show ((wr.alloc (.cells #[.int .u8 o.f0, .int .i64 o.f1, .int .i64 o.f2, .int .i64 o.f3] 78)).alloc (.cells #[.int .i64 0, .bool false, .int .i64 0, .int .i64 0, .slice none 0 0, .bool false] 84)).heap.size = wr.heap.size + 1 + 1 from (Array.size_push _).trans (congrArg (· + 1) (Array.size_push _))] at h
            clear h3 x0 x1 x2 x3
            rintro wS ⟨X8, X9, X10, BS⟩
            have y0 : wS.cell? ⟨wr.heap.size, 0, none⟩ = some (.int .u8 o.f0) := (blk_cell X8.out 0).trans rfl
            have y1 : wS.cell? ⟨wr.heap.size, 1, none⟩ = some (.int .i64 o.f1) := (blk_cell X8.out 1).trans rfl
            have y2 : wS.cell? ⟨wr.heap.size, 2, none⟩ = some (.int .i64 o.f2) := (blk_cell X8.out 2).trans rfl
            have y3 : wS.cell? ⟨wr.heap.size, 3, none⟩ = some (.int .i64 o.f3) := (blk_cell X8.out 3).trans rfl
            go_upto_region 12 with (go_at_call 74; refine Calls.mono (model_Apply.calls k An cn Ln o.f0 o.f1 o.f2 o.f3 a1 a2 a3 a4 a5 a6 a7 _ ?_ HCn.out.2 HGa.out) ?_; (exact Kd.C_below HCn.out.1 BS.out); rintro e wT ⟨v0, v5, rfl, hO1, hO2, hb⟩; obtain ⟨Ax, cx, ex⟩ := Kd.R_slice hO1; subst ex; obtain ⟨Ay, cy, ey⟩ := Kd.R_slice hO2; subst ey; have O1 := Lib.hid hO1; have O2 := Lib.hid hO2; have BT := Lib.hid (below_step BS.out hb); have X8' := Lib.hid (blk_below X8.out hb); have X9' := Lib.hid (blk_below X9.out hb); have X10' := Lib.hid (blk_below X10.out hb); clear hO1 hO2 hb; have e0 : wT.cell? ⟨wr.heap.size + 1, 0, none⟩ = some (.int .i64 0) := (blk_cell X9'.out 0).trans rfl; have e1 : wT.cell? ⟨wr.heap.size + 1, 1, none⟩ = some (.bool false) := (blk_cell X9'.out 1).trans rfl; have e2 : wT.cell? ⟨wr.heap.size + 1, 2, none⟩ = some (.int .i64 0) := (blk_cell X9'.out 2).trans rfl; have e3 : wT.cell? ⟨wr.heap.size + 1, 3, none⟩ = some (.int .i64 0) := (blk_cell X9'.out 3).trans rfl; have e4 : wT.cell? ⟨wr.heap.size + 1, 4, none⟩ = some (.slice none 0 0) := (blk_cell X9'.out 4).trans rfl; have e5 : wT.cell? ⟨wr.heap.size + 1, 5, none⟩ = some (.bool false) := (blk_cell X9'.out 5).trans rfl; have f0 := blk_frozen X9'.out 0; have f1 := blk_frozen X9'.out 1; have f2 := blk_frozen X9'.out 2; have f3 := blk_frozen X9'.out 3; have f4 := blk_frozen X9'.out 4; have f5 := blk_frozen X9'.out 5)
            refine ModelChains.settle (p := fun W => Code.wp _ _ _ _ W) (R := fun W => Hid (W.heap[wr.heap.size]? = some (.cells #[.int .u8 o.f0, .int .i64 o.f1, .int .i64 o.f2, .int .i64 o.f3] 78 (0, 0))) ∧ Hid (W.heap[wr.heap.size + 1]? = some (.cells #[.int .i64 a2, .bool a3, .int .i64 a4, .int .i64 a5, .slice Ay a6.length cy, .bool a7] 84 (0, 0))) ∧ Hid (W.heap[wr.heap.size + 1 + 1]? = some (.cells #[.int .i64 0, .bool false, .int .i64 0, .int .i64 0, .slice none 0 0, .bool false] 84 (0, 0))) ∧ Hid (∃ B ok, Kd.R k40 40 W B ok (.slice Ax a1.length cx) a1) ∧ Hid (∃ B ok, Kd.R k40 40 W B ok (.slice Ay a6.length cy) a6) ∧ Hid (Below wr.heap.size wr W)) ?_ ?_
            · obtain ⟨p1, p2, p3, p4⟩ := ModelChains.put6 (y0 := .int .i64 a2) (y1 := .bool a3) (y2 := .int .i64 a4) (y3 := .int .i64 a5) (y4 := .slice Ay a6.length cy) (y5 := .bool a7) (Nat.le_succ wr.heap.size) X9'.out BT.out
              exact ⟨Lib.hid (p3 _ _ (by omega) X8'.out), Lib.hid p1, Lib.hid (p3 _ _ (by omega) X10'.out), Lib.hid ⟨_, _, p4 _ _ _ _ O1.out⟩, Lib.hid ⟨_, _, p4 _ _ _ _ O2.out⟩, Lib.hid p2⟩
            clear X8 X9 X10 X8' X9' X10' O1 O2 BT BS y0 y1 y2 y3 e0 e1 e2 e3 e4 e5 f0 f1 f2 f3 f4 f5
            rintro wU ⟨X8, X9, X10, CX, CY, BU⟩
            have y0 : wU.cell? ⟨wr.heap.size, 0, none⟩ = some (.int .u8 o.f0) := (blk_cell X8.out 0).trans rfl
            have y1 : wU.cell? ⟨wr.heap.size, 1, none⟩ = some (.int .i64 o.f1) := (blk_cell X8.out 1).trans rfl
            have y2 : wU.cell? ⟨wr.heap.size, 2, none⟩ = some (.int .i64 o.f2) := (blk_cell X8.out 2).trans rfl
            have y3 : wU.cell? ⟨wr.heap.size, 3, none⟩ = some (.int .i64 o.f3) := (blk_cell X8.out 3).trans rfl
            have HV : Hid (Kd.V k40 40 wU wU.heap.size (fun k_ => k_ < wr.heap.size) (.slice Aw Lw.length cw) Lw) := Lib.hid (Kd.V_mk HCw.out.2 (fun W hW => (Kd.C_F k40_heap HCw.out.1) W (fun k hk _ => (hW k hk (Nat.lt_of_lt_of_le hk BU.out.size)).trans (BU.out.block k hk))))
            go_upto_region 13 with (go_at_call 75; refine Calls.mono (boscagelaw18_Apply.calls k (fun k_ => k_ < wr.heap.size) Aw cw Lw o.f0 o.f1 o.f2 o.f3 b1 b2 b3 b4 b5 b6 b7 _ HV.out HGb.out) ?_; rintro e wV ⟨v0, v5, rfl, hV1, hO2, hb⟩; obtain ⟨Aq, cq, eq_⟩ := Kd.R_slice hO2; subst eq_; obtain ⟨Az, cz, ez, hlz, hfz⟩ := hV1; subst ez; have O2 := Lib.hid hO2; have FZ := Lib.hid (And.intro hlz hfz); have X8' := Lib.hid (blk_below X8.out hb); have X9' := Lib.hid (blk_below X9.out hb); have X10' := Lib.hid (blk_below X10.out hb); have CX' := Lib.hid (CX.out.imp fun _ h => h.imp fun _ h => Kd.R_below h hb); have CY' := Lib.hid (CY.out.imp fun _ h => h.imp fun _ h => Kd.R_below h hb); have BV := Lib.hid (below_step BU.out hb); clear hO2 hb hlz hfz; have e0 : wV.cell? ⟨wr.heap.size + 1 + 1, 0, none⟩ = some (.int .i64 0) := (blk_cell X10'.out 0).trans rfl; have f0 := blk_frozen X10'.out 0; have e1 : wV.cell? ⟨wr.heap.size + 1 + 1, 1, none⟩ = some (.bool false) := (blk_cell X10'.out 1).trans rfl; have f1 := blk_frozen X10'.out 1; have e2 : wV.cell? ⟨wr.heap.size + 1 + 1, 2, none⟩ = some (.int .i64 0) := (blk_cell X10'.out 2).trans rfl; have f2 := blk_frozen X10'.out 2; have e3 : wV.cell? ⟨wr.heap.size + 1 + 1, 3, none⟩ = some (.int .i64 0) := (blk_cell X10'.out 3).trans rfl; have f3 := blk_frozen X10'.out 3; have e4 : wV.cell? ⟨wr.heap.size + 1 + 1, 4, none⟩ = some (.slice none 0 0) := (blk_cell X10'.out 4).trans rfl; have f4 := blk_frozen X10'.out 4; have e5 : wV.cell? ⟨wr.heap.size + 1 + 1, 5, none⟩ = some (.bool false) := (blk_cell X10'.out 5).trans rfl; have f5 := blk_frozen X10'.out 5)
            refine ModelChains.settle (p := fun W => Code.wp _ _ _ _ W) (R := fun W => Hid (W.heap[wr.heap.size + 1]? = some (.cells #[.int .i64 a2, .bool a3, .int .i64 a4, .int .i64 a5, .slice Ay a6.length cy, .bool a7] 84 (0, 0))) ∧ Hid (W.heap[wr.heap.size + 1 + 1]? = some (.cells #[.int .i64 b2, .bool b3, .int .i64 b4, .int .i64 b5, .slice Aq b6.length cq, .bool b7] 84 (0, 0))) ∧ Hid (a1.length ≤ cx ∧ Kd.C k40 W Ax a1.length a1) ∧ Hid (a6.length ≤ cy ∧ Kd.C k40 W Ay a6.length a6) ∧ Hid (b1.length ≤ cz ∧ Kd.C k40 W Az b1.length b1) ∧ Hid (b6.length ≤ cq ∧ Kd.C k40 W Aq b6.length b6) ∧ Hid (Below wr.heap.size wr W)) ?_ ?_
            · obtain ⟨p1, p2, p3, p4⟩ := ModelChains.put6 (y0 := .int .i64 b2) (y1 := .bool b3) (y2 := .int .i64 b4) (y3 := .int .i64 b5) (y4 := .slice Aq b6.length cq) (y5 := .bool b7) (show wr.heap.size ≤ wr.heap.size + 1 + 1 by omega) X10'.out BV.out
              obtain ⟨B1, k1, r1⟩ := CX'.out
              obtain ⟨B2, k2, r2⟩ := CY'.out
              obtain ⟨hlz, hfz⟩ := FZ.out
              have hs := BU.out.size
              have hx : wr.heap.size + 1 + 1 < wU.heap.size := (Array.getElem?_eq_some_iff.mp X10.out).1
              refine ⟨Lib.hid (p3 _ _ (by omega) X9'.out), Lib.hid p1, Lib.hid (Kd.R_reads' (p4 _ _ _ _ r1)).2, Lib.hid (Kd.R_reads' (p4 _ _ _ _ r2)).2, Lib.hid ⟨hlz, hfz _ ?_⟩, Lib.hid (Kd.R_reads' (p4 _ _ _ _ O2.out)).2, Lib.hid p2⟩
              rintro g ⟨hg, _⟩ hlt
              have hne : g ≠ wr.heap.size + 1 + 1 := by rcases hg with hg | hg <;> omega
              obtain ⟨ob, hob⟩ : ∃ ob, wV.heap[g]? = some ob := ⟨_, Array.getElem?_eq_getElem hlt⟩
              exact (p3 _ _ hne hob).trans hob.symm
            clear X8 X9 X10 X8' X9' X10' CX CY CX' CY' O2 FZ BU BV HV y0 y1 y2 y3 e0 e1 e2 e3 e4 e5 f0 f1 f2 f3 f4 f5
            rintro wW ⟨X9, X10, CX, CY, CZ, CQ, BW⟩
            have y0 : wW.cell? ⟨wr.heap.size + 1, 0, none⟩ = some (.int .i64 a2) := (blk_cell X9.out 0).trans rfl
            have y1 : wW.cell? ⟨wr.heap.size + 1, 1, none⟩ = some (.bool a3) := (blk_cell X9.out 1).trans rfl
            have y2 : wW.cell? ⟨wr.heap.size + 1, 2, none⟩ = some (.int .i64 a4) := (blk_cell X9.out 2).trans rfl
            have y3 : wW.cell? ⟨wr.heap.size + 1, 3, none⟩ = some (.int .i64 a5) := (blk_cell X9.out 3).trans rfl
            have y4 : wW.cell? ⟨wr.heap.size + 1, 4, none⟩ = some (.slice Ay a6.length cy) := (blk_cell X9.out 4).trans rfl
            have y5 : wW.cell? ⟨wr.heap.size + 1, 5, none⟩ = some (.bool a7) := (blk_cell X9.out 5).trans rfl
            have z0 : wW.cell? ⟨wr.heap.size + 1 + 1, 0, none⟩ = some (.int .i64 b2) := (blk_cell X10.out 0).trans rfl
            have z1 : wW.cell? ⟨wr.heap.size + 1 + 1, 1, none⟩ = some (.bool b3) := (blk_cell X10.out 1).trans rfl
            have z2 : wW.cell? ⟨wr.heap.size + 1 + 1, 2, none⟩ = some (.int .i64 b4) := (blk_cell X10.out 2).trans rfl
            have z3 : wW.cell? ⟨wr.heap.size + 1 + 1, 3, none⟩ = some (.int .i64 b5) := (blk_cell X10.out 3).trans rfl
            have z4 : wW.cell? ⟨wr.heap.size + 1 + 1, 4, none⟩ = some (.slice Aq b6.length cq) := (blk_cell X10.out 4).trans rfl
            have z5 : wW.cell? ⟨wr.heap.size + 1 + 1, 5, none⟩ = some (.bool b7) := (blk_cell X10.out 5).trans rfl
            go_wp2_with (first | (go_at_call 73; refine Calls.mono (boscagelaw18_Same.calls k a2 a3 a4 a5 Ay cy a6 a7 b2 b3 b4 b5 Aq cq b6 b7 true _ CY.out.2 CY.out.1 CQ.out.2 CQ.out.1 HGs.out) ?_; rintro e w5 ⟨rfl, hb⟩; have B5 := Lib.hid (below_step BW.out hb); have D1 := Lib.hid (And.intro CX.out.1 (Kd.C_below CX.out.2 hb)); have D2 := Lib.hid (And.intro CZ.out.1 (Kd.C_below CZ.out.2 hb)); clear hb) | (go_at_call 48; refine Calls.mono (boscagelaw02_Same.calls k Ax cx a1 Az cz b1 true _ D1.out.2 D1.out.1 D2.out.2 D2.out.1 HGt.out) ?_; rintro e w6 ⟨rfl, hb⟩; have B6 := Lib.hid (below_step B5.out (Drawn0.below hb)); have D3 := Lib.hid (Drawn0.below hb); clear hb))
            go_roundg (l1.length - (i + 1))
            case rel => exact ⟨i + 1, a1, b1, Ax, Az, cx, cz, by first | rfl | exact congrArg _ hiw | (simp [hiw]), rfl, rfl, by omega, by omega, HGn, Lib.hid ⟨Kd.C_below D1.out.2 D3.out, D1.out.1⟩, Lib.hid ⟨Kd.C_below D2.out.2 D3.out, D2.out.1⟩, Lib.hid (below_step HB.out B6.out)⟩
            all_goals omega
          · cases h
        · obtain rfl : i = l1.length := by omega
          go_wp2
          go_ret
          exact ⟨rfl, HB.out⟩
end Go.Proofs.Ytkoiffkonjpoiaa.Q
