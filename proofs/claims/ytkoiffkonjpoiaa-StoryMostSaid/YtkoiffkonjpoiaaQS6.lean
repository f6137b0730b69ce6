/- The first order of a story, and whether there is one, by hand: told by the plain search. The pairs are fewer than 8796093022208. -/
import Derived.Test.YtkoiffkonjpoiaaQS5
namespace Go.Proofs.Ytkoiffkonjpoiaa.Q
open Go.RowKit Go.Proofs.YtkoiffkonjpoiaaW.PrintWords Go.Proofs.YtkoiffkonjpoiaaW.PrintLast Go.Proofs.YtkoiffkonjpoiaaW.PrintMore Go.Proofs.YtkoiffkonjpoiaaX
attribute [local go_sem] max2_int min2_int max_two min_two max_three min_three max_four min_four
set_option linter.unusedVariables false
set_option linter.unusedSimpArgs false
/-- Whether there is an order, and the first one. -/
def Order.f (k : Nat) (l0 : List S40) (l : List S128) : Option (Bool × List Nat) :=
  if 62 < l.length then some (false, []) else if l0.length < 8796093022208 then (find.f k l 100 0 l0 [] []).bind fun r => some (r.1, if r.1 = true then r.2.2 else []) else none
/-- The numbers below i of those that must be in an order. -/
def upM (l : List S128) (i : Nat) : Nat := Srch.mask ((List.range i).filter fun j => match l[j]? with | some e => mustE e | none => false)
theorem upM_succ (l : List S128) {i : Nat} {e : S128} (h : l[i]? = some e) : upM l (i + 1) = if mustE e = true then upM l i ||| 1 <<< i else upM l i := by
  unfold upM
  rw [List.range_succ, List.filter_append]
  cases hm : mustE e with
  | true => rw [List.filter_cons_of_pos (by rw [h]; exact hm)]; simp [Srch.mask_snoc]
  | false => rw [List.filter_cons_of_neg (by rw [h]; simp [hm])]; simp
theorem upM_lt (l : List S128) {i : Nat} (hi : i ≤ 62) : upM l i < 18446744073709551616 :=
  Nat.lt_of_lt_of_le (mask_lt 62 _ (fun j hj => by have := List.mem_range.1 (List.mem_filter.1 hj).1; omega)) (by decide)
theorem blk_alloc_map {W : World} {g : Nat} {es : Array MapEntry} {cl : Nat} {o : Obj} (h : W.heap[g]? = some (.map es cl)) : (W.alloc o).heap[g]? = some (.map es cl) :=
  ((below_alloc (Below.refl W.heap.size W) o).block g (Array.getElem?_eq_some_iff.1 h).1).trans h
def Linear.f (k : Nat) (l0 : List S40) (l : List S128) : Option Bool := (Order.f k l0 l).bind fun r => some r.1
set_option maxHeartbeats 8000000 in
set_option maxRecDepth 100000 in
theorem Order.calls (k : Nat) (A0 : Option Addr) (c0 : Nat) (l0 : List S40) (A1 : Option Addr) (c1 : Nat) (l : List S128) (b : Bool) (so : List Nat) (w : World) (hr0 : Kd.C k40 w A0 l0.length l0) (hc0 : l0.length ≤ c0) (hr1 : Kd.C k128 w A1 l.length l) (hc1 : l.length ≤ c1) (h : Order.f k l0 l = some (b, so)) :
    Calls Try.prog 92 #[.slice A0 l0.length c0, .slice A1 l.length c1] w fun e w' => ∃ v0, e = .returned (.tuple #[v0, .bool b]) ∧ Kd.R (Kd.int .i64) 3 w' w.heap.size (fun _ => True) v0 (toI so) ∧ Below w.heap.size w w' := by
  have hu128 := Try.underlying128
  have hu155 := Try.underlying155
  have hmm := @run_makeMap Try.prog
  have HR0 := Lib.hid hr0
  have HC0 := Lib.hid hc0
  have HR1 := Lib.hid hr1
  have HC1 := Lib.hid hc1
  clear hr0 hc0 hr1 hc1
  unfold Order.f at h
  by_cases hn : 62 < l.length
  · rw [if_pos hn] at h
    obtain ⟨rfl, rfl⟩ := Prod.mk.inj (Option.some.inj h)
    clear h
    have hd : decide (62 < (l.length : Int)) = true := decide_eq_true (by omega)
    have hd' : decide (62 < l.length) = true := decide_eq_true hn
    clear hn
    go_enter Try.func92, Try.ntmps92
    go_wp2_with fail
    go_ret2
    exact ⟨_, rfl, Kd.R_nil _ _ _ _ _, Below.refl _ _⟩
  · rw [if_neg hn] at h
    by_cases hl0 : l0.length < 8796093022208
    · rw [if_pos hl0] at h
      obtain ⟨⟨rb, rs, rso⟩, hf, h⟩ := Option.bind_eq_some_iff.1 h
      have HFi := Lib.hid hf
      obtain ⟨rfl, hso⟩ := Prod.mk.inj (Option.some.inj h)
      clear h hf
      have hd : decide (62 < (l.length : Int)) = false := decide_eq_false (by omega)
      have hd' : decide (62 < l.length) = false := decide_eq_false hn
      have hn' : l.length ≤ 62 := by omega
      go_enter Try.func92, Try.ntmps92
      go_upto_region 4 with (fail)
      obtain ⟨g, hg⟩ : ∃ g, g = w.heap.size + 1 := ⟨_, rfl⟩
      have hsz : (w.alloc (.map #[] 0)).heap.size = w.heap.size + 1 := Array.size_push _
      have hx0 := heap_alloc_new (w.alloc (.map #[] 0)) (.cells #[.slice A1 l.length c1, .int .u64 0, .map (some w.heap.size), .slice none 0 0] 155)
      rw [hsz, ← hg] at hx0
      rw [← hg]
      refine find.settle (p := fun W => Code.wp _ _ _ _ W) (R := fun W => Hid (Below w.heap.size w W) ∧ Hid (W.heap[g]? = some (.cells (srA A1 l.length c1 (upM l 0) w.heap.size (.slice none 0 0)) 155 (0, 0))) ∧ Hid (SeenAt W w.heap.size [])) ⟨Lib.hid (below_alloc (below_alloc (Below.refl _ _) _) _), Lib.hid hx0, Lib.hid ⟨fun _ h => by simp at h, #[], 0, blk_alloc_map (heap_alloc_new w (.map #[] 0)), rfl⟩⟩ ?_
      rintro w1 ⟨HB, HX, HS⟩
      have hg0 : w.heap.size ≤ g := by omega
      have hm0 : w.heap.size ≤ w.heap.size := Nat.le_refl _
      have hne : g ≠ w.heap.size := by omega
      clear hx0 hsz hg hmm
      go_wp2_with fail
      go_loopg [18] l.length (fun gk v18 W => ∃ (i : Nat), v18 = .int .i64 (i : Int) ∧ i ≤ l.length ∧ l.length - i ≤ gk ∧ Hid (Below w.heap.size w W) ∧ Hid (W.heap[g]? = some (.cells (srA A1 l.length c1 (upM l i) w.heap.size (.slice none 0 0)) 155 (0, 0))) ∧ Hid (SeenAt W w.heap.size []))
      case atStart => exact ⟨0, rfl, by omega, by omega, HB, HX, HS⟩
      case round =>
        clear HB HX HS
        obtain ⟨i, rfl, hi1, hgk, HB, HX, HS⟩ := hrel
        by_cases hi : i < l.length
        · obtain ⟨e, he⟩ : ∃ e, e = rd_T128 l (i : Int) := ⟨_, rfl⟩
          have hli : l[i]? = some e := by rw [he]; simp [rd_T128, hi]
          obtain ⟨ad, A11, c11, e1, x0, x1, x2, x3, x4, x5, x6, x7, x8, x9, x10, x11, x12, l11, g11⟩ := ev_at HR1.out HB.out i hi e he
          clear l11 g11 he
          cases e1
          have hid : decide ((i : Int) < (l.length : Int)) = true := decide_eq_true (by omega)
          have hiw : IntKind.i64.wrap ((i : Int) + 1) = (i : Int) + 1 := by rw [IntKind.wrap_i64]; omega
          have hup := upM_succ l hli
          go_upto_region 7 with (fail)
          refine find.settle (p := fun W => Code.wp _ _ _ _ W) (R := fun W => Hid (Below w.heap.size w W) ∧ Hid (W.heap[g]? = some (.cells (srA (some ad) l.length c1 (upM l i) w.heap.size (.slice none 0 0)) 155 (0, 0))) ∧ Hid (SeenAt W w.heap.size []) ∧ Hid (W.heap[wr.heap.size]? = some (.cells (evA e A11 c11) 128 (0, 0)))) ⟨Lib.hid (below_alloc HB.out _), Lib.hid (blk_alloc HX.out _), Lib.hid (HS.out.keep ((below_alloc (Below.refl wr.heap.size wr) _).block _ (seen_lt HS.out))), Lib.hid (heap_alloc_new _ _)⟩ ?_
          clear HB HX HS x0 x1 x2 x3 x4 x5 x6 x7 x8 x9 x10 x11 x12
          rintro w3 ⟨HB3, HX3, HS3, HZ3⟩
          obtain ⟨z0, z1, z2, z3, z4, z5, z6, z7, z8, z9, z10, z11, z12⟩ := ev_cells HZ3.out
          by_cases hm : mustE e = true
          · rw [if_pos hm] at hup
            have hor := or_at (upM l i) i (upM_lt l (by omega)) (by omega)
            rw [← hup] at hor
            go_upto_region 8 with (go_at_call 117; refine (evMust e A11 c11 _).mono ?_; rintro e_ w4 ⟨rfl, hb4⟩; rw [hm]; have HB4 := Lib.hid (below_step HB3.out hb4); have HX4 := Lib.hid (blk_below HX3.out hb4); have HS4 := Lib.hid (HS3.out.keep (hb4.block _ (seen_lt HS3.out))); clear hb4)
            refine drawn_tail 9 (by kernel_rfl) ?_
            intro W hW hBW
            have HB5 := Lib.hid (below_step HB4.out hBW)
            have HX5 := Lib.hid (blk_below HX4.out hBW)
            have HS5 := Lib.hid (HS4.out.keep (hBW.block _ (seen_lt HS4.out)))
            have g1 : W.cell? ⟨g, 1, none⟩ = some (.int .u64 (upM l i : Int)) := (blk_cell HX5.out 1).trans rfl
            have g1f := blk_frozen HX5.out 1
            clear hW hBW HB4 HX4 HS4 hup
            simp only [List.take_succ_cons, List.take_zero, List.drop_succ_cons, List.drop_zero]
            repeat still_step
            refine wpStill_nil ?_
            have HB6 : Hid (Below w.heap.size w (W.setCell ⟨g, 1, none⟩ (.int .u64 (upM l (i + 1) : Int)))) := Lib.hid (below_set HB5.out hg0)
            have HX6 : Hid ((W.setCell ⟨g, 1, none⟩ (.int .u64 (upM l (i + 1) : Int))).heap[g]? = some (.cells (srA (some ad) l.length c1 (upM l (i + 1)) w.heap.size (.slice none 0 0)) 155 (0, 0))) := Lib.hid (blk_put HX5.out 1 _ rfl)
            have HS6 : Hid (SeenAt (W.setCell ⟨g, 1, none⟩ (.int .u64 (upM l (i + 1) : Int))) w.heap.size []) := Lib.hid (HS5.out.keep (Below.heap_setCell W ⟨g, 1, none⟩ _ w.heap.size (Ne.symm hne)))
            go_wp2_with fail
            go_roundg (l.length - (i + 1))
            case rel => exact ⟨i + 1, by first | rfl | exact congrArg _ hiw | (simp [hiw]), by omega, by omega, HB6, HX6, HS6⟩
            all_goals omega
          · have hm' : mustE e = false := by simpa using hm
            rw [if_neg hm] at hup
            go_wp2_with (go_at_call 117; refine (evMust e A11 c11 _).mono ?_; rintro e_ w4 ⟨rfl, hb4⟩; rw [hm']; have HB4 := Lib.hid (below_step HB3.out hb4); have HX4 := Lib.hid (blk_below HX3.out hb4); have HS4 := Lib.hid (HS3.out.keep (hb4.block _ (seen_lt HS3.out))); clear hb4)
            go_roundg (l.length - (i + 1))
            case rel => exact ⟨i + 1, by first | rfl | exact congrArg _ hiw | (simp [hiw]), by omega, by omega, HB4, Lib.hid (by rw [hup]; exact HX4.out), HS4⟩
            all_goals omega
        · obtain rfl : i = l.length := by omega
          have hid : decide ((l.length : Int) < (l.length : Int)) = false := decide_eq_false (by omega)
          have HV : Hid (Kd.V k40 40 wr 0 (fun b => b < w.heap.size) (.slice A0 l0.length c0) l0) := Lib.hid (Kd.V_mk HC0.out (Kd.F_below (Kd.C_F k40_heap HR0.out) HB.out))
          have HO : Hid (Kd.R (Kd.int .i64) 3 wr w.heap.size (fun _ => False) (.slice none 0 0) (toI [])) := Lib.hid (Kd.R_nil _ _ _ _ _)
          have hokp : ∀ b, b < w.heap.size → ¬ False ∧ b ≠ g ∧ b ≠ w.heap.size := fun b hb => ⟨fun h => h, by omega, by omega⟩
          cases rb with
          | true =>
            rw [if_pos rfl] at hso
            subst hso
            go_upto_region 12 with (go_at_call 120; refine Calls.mono (find.calls k l w A1 c1 HR1.out HC1.out hn' g w.heap.size hg0 hm0 hne 100 0 l0 [] [] _ HFi.out (fun _ => False) (fun b => b < w.heap.size) 0 A0 c0 (.slice none 0 0) _ (by decide) hl0 (by simp) HB.out HX.out HS.out HO.out (fun h => h) (fun h => h) HV.out hokp) ?_; rintro e_ w5 ⟨rfl, vo, hb5, hk5, hx5, hs5, hR5⟩; have HB5 := Lib.hid hb5; have HR5 := Lib.hid (Kd.R_mono (ok' := fun _ => True) hR5 (fun _ _ => trivial)); have g3 : w5.cell? ⟨g, 3, none⟩ = some vo := (blk_cell hx5 3).trans rfl; clear hb5 hk5 hx5 hs5 hR5)
            obtain ⟨Ao, co, eo⟩ := Kd.R_slice HR5.out
            subst eo
            go_wp2_with fail
            go_ret2
            exact ⟨_, rfl, HR5.out, HB5.out⟩
          | false =>
            rw [if_neg (by simp)] at hso
            subst hso
            go_wp2_with (go_at_call 120; refine Calls.mono (find.calls k l w A1 c1 HR1.out HC1.out hn' g w.heap.size hg0 hm0 hne 100 0 l0 [] [] _ HFi.out (fun _ => False) (fun b => b < w.heap.size) 0 A0 c0 (.slice none 0 0) _ (by decide) hl0 (by simp) HB.out HX.out HS.out HO.out (fun h => h) (fun h => h) HV.out hokp) ?_; rintro e_ w5 ⟨rfl, vo, hb5, hk5, hx5, hs5, hR5⟩; have HB5 := Lib.hid hb5; clear hb5 hk5 hx5 hs5 hR5)
            go_ret2
            exact ⟨_, rfl, Kd.R_nil _ _ _ _ _, HB5.out⟩
    · rw [if_neg hl0] at h
      cases h
set_option maxHeartbeats 4000000 in
set_option maxRecDepth 100000 in
theorem Linear.calls (k : Nat) (A0 : Option Addr) (c0 : Nat) (l0 : List S40) (A1 : Option Addr) (c1 : Nat) (l : List S128) (b : Bool) (w : World) (hr0 : Kd.C k40 w A0 l0.length l0) (hc0 : l0.length ≤ c0) (hr1 : Kd.C k128 w A1 l.length l) (hc1 : l.length ≤ c1) (h : Linear.f k l0 l = some b) :
    Calls Try.prog 94 #[.slice A0 l0.length c0, .slice A1 l.length c1] w fun e w' => e = .returned (.bool b) ∧ Below w.heap.size w w' := by
  obtain ⟨⟨rb, so⟩, hf, h⟩ := Option.bind_eq_some_iff.1 h
  obtain rfl := Option.some.inj h
  have HR0 := Lib.hid hr0
  have HC0 := Lib.hid hc0
  have HR1 := Lib.hid hr1
  have HC1 := Lib.hid hc1
  have HFi := Lib.hid hf
  clear hr0 hc0 hr1 hc1 h hf
  go_enter Try.func94, Try.ntmps94
  go_wp2_with (go_at_call 92; refine (Order.calls k A0 c0 l0 A1 c1 l rb so _ HR0.out HC0.out HR1.out HC1.out HFi.out).mono ?_; rintro e_ w1 ⟨v0, rfl, hR, hb⟩; obtain ⟨Ao, co, eo⟩ := Kd.R_slice hR; subst eo; have HB := Lib.hid hb; clear hR hb)
  go_ret
  exact ⟨rfl, HB.out⟩
end Go.Proofs.Ytkoiffkonjpoiaa.Q
