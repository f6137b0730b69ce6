/- The walk of StoryMost, by hand: what the law does in memory, told by a plain function; under the contract's own conditions alone. -/
import Derived.Test.YtkoiffkonjpoiaaQS8
namespace Go.Proofs.Ytkoiffkonjpoiaa.Q
open Go.RowKit Go.Proofs.YtkoiffkonjpoiaaW.PrintWords Go.Proofs.YtkoiffkonjpoiaaW.PrintLast Go.Proofs.YtkoiffkonjpoiaaW.PrintMore Go.Proofs.YtkoiffkonjpoiaaX
attribute [local go_sem] max2_int min2_int max_two min_two max_three min_three max_four min_four
set_option linter.unusedVariables false
set_option linter.unusedSimpArgs false
/-- Events that look for a key, one behind the other. -/
def mostE (key : Int) (i : Nat) : S128 := ⟨0, ⟨0, key, 0, 0⟩, 2 * (i : Int), 2 * (i : Int) + 1, ⟨0, false, 0, 0, [], false⟩⟩
def mostL (key : Int) (n : Nat) : List S128 := (List.range n).map (mostE key)
theorem mostL_length (key : Int) (n : Nat) : (mostL key n).length = n := by simp [mostL]
theorem mostL_succ (key : Int) (n : Nat) : mostL key (n + 1) = mostL key n ++ [mostE key n] := by simp [mostL, List.range_succ]
def boscagelaw22_StoryMost.f (k : Nat) (a0 a1 : Int) : Option Bool :=
  if 0 ≤ a0.tmod 4 then (Order.f k [] (mostL a1 (62 + (a0.tmod 4).toNat))).bind fun r => if 0 < a0.tmod 4 then (if r.1 = true then some false else if r.2.length = 0 then (Linear.f k [] (mostL a1 (62 + (a0.tmod 4).toNat))).bind fun b => some (!b) else some false) else (if r.1 = true then (if r.2.length = 62 then some ((r.2.getD 61 0 : Int) == 61) else some false) else some false) else none
def mostC (key : Int) (i : Nat) : List Value := [.int .i64 0, .int .u8 0, .int .i64 key, .int .i64 0, .int .i64 0, .int .i64 (2 * (i : Int)), .int .i64 (2 * (i : Int) + 1), .int .i64 0, .bool false, .int .i64 0, .int .i64 0, .slice none 0 0, .bool false]
theorem mostM (W : World) (base : Nat) (ok : Nat → Prop) (key : Int) (i : Nat) : k128.M W base ok (mostE key i) (mostC key i) := k128_mkM W base ok (mostE key i) (v11 := .slice none 0 0) (Kd.R_nil _ _ _ _ _)
set_option maxHeartbeats 8000000 in
set_option maxRecDepth 100000 in
theorem boscagelaw22_StoryMost.calls (k : Nat) (a0 a1 : Int) (r : Bool) (w : World) (h : boscagelaw22_StoryMost.f k a0 a1 = some r) :
    Calls Try.prog 37 #[.int .u8 a0, .int .i64 a1] w fun e w' => e = .returned (.bool r) ∧ Below w.heap.size w w' := by
  have hu128 := Try.underlying128
  have hu84 := Try.underlying84
  have hu78 := Try.underlying78
  have info128' := info128
  unfold boscagelaw22_StoryMost.f at h
  by_cases hneg : 0 ≤ a0.tmod 4
  · rw [if_pos hneg] at h
    obtain ⟨m, hm4⟩ : ∃ m : Nat, a0.tmod 4 = (m : Int) := ⟨(a0.tmod 4).toNat, by omega⟩
    have hm5 : m < 4 := by have := Int.tmod_lt_of_pos a0 (show (0 : Int) < 4 by decide); omega
    rw [hm4, Int.toNat_natCast] at h
    obtain ⟨⟨ob, oso⟩, hO, h⟩ := Option.bind_eq_some_iff.1 h
    have HO := Lib.hid hO
    have H := Lib.hid h
    clear hO h hneg
    have hw1 : wrap64 (m : Int) = (m : Int) := by unfold wrap64; omega
    have hw2 : wrap64 (62 + (m : Int)) = ((62 + m : Nat) : Int) := by unfold wrap64; omega
    go_enter Try.func37, Try.ntmps37
    go_upto_region 5 with (go_at_call 84; refine (Awake22.calls _).mono ?_; rintro e w1 ⟨rfl, hb⟩; have HB := Lib.hid hb; clear hb)
    go_loopg [15, 5] (62 + m) (fun gk v15 v5 W => ∃ (i : Nat), v15 = .int .i64 (i : Int) ∧ i ≤ 62 + m ∧ 62 + m - i ≤ gk ∧ Hid (Kd.R k128 128 W w.heap.size (fun _ => True) v5 (mostL a1 i)) ∧ Hid (Below w.heap.size w W))
    case atStart => exact ⟨0, rfl, by omega, by omega, Lib.hid (Kd.R_nil _ _ _ _ _), HB⟩
    case round =>
      clear HB
      obtain ⟨i, rfl, hi1, hgk, HR, HB⟩ := hrel
      by_cases hi : i < 62 + m
      · have hid : decide ((i : Int) < 62 + (m : Int)) = true := decide_eq_true (by omega)
        have hiw : IntKind.i64.wrap ((i : Int) + 1) = (i : Int) + 1 := by rw [IntKind.wrap_i64]; omega
        have hwa : wrap64 (2 * (i : Int)) = 2 * (i : Int) := by unfold wrap64; omega
        have hwb : wrap64 (2 * (i : Int) + 1) = 2 * (i : Int) + 1 := by unfold wrap64; omega
        have hle : ((mostL a1 i).length + 1) * 120 ≤ 140737488355328 := by rw [mostL_length]; omega
        go_wp2_with ((with_reducible refine gate_builtin (b := .append) (xs := #[.tmp 18, .tmp 27]) rfl ?_); at_builtin; refine Kd.R_append k128 (w0 := w) w.heap.size rfl (.tmp 18) (.tmp 27) 112 128 (.agg #[(.int .i64 0), (.int .u8 0), (.int .i64 0), (.int .i64 0), (.int .i64 0), (.int .i64 0), (.int .i64 0), (.int .i64 0), (.bool false), (.int .i64 0), (.int .i64 0), (.slice none 0 0), (.bool false)]) 120 rfl Try.underlying112 info128 rfl (by decide) (by omega) u5 (mostL a1 i) (mostE a1 i) (mostC a1 i) (fun _ => True) (fun _ => False) rfl rfl (mostM _ _ _ _ _) (fun _ hk => hk.elim) (fun _ _ => trivial) HR.out HB.out (below_size HB.out) hle ?_; intro v1 w5 ho hb hg hat; rw [← mostL_succ] at ho; have HR5 := Lib.hid ho; have HB5 := Lib.hid hb; clear ho hb hg hat)
        go_roundg (62 + m - (i + 1))
        case rel => exact ⟨i + 1, by first | rfl | exact congrArg _ hiw | (simp [hiw]), by omega, by omega, HR5, HB5⟩
        all_goals omega
      · obtain rfl : i = 62 + m := by omega
        have hid : decide ((62 : Int) + (m : Int) < 62 + (m : Int)) = false := decide_eq_false (by omega)
        obtain ⟨A5, c5, e5⟩ := Kd.R_slice HR.out
        subst e5
        have HC := Lib.hid (Kd.R_reads' HR.out).2
        clear HR
        have h := H.out
        by_cases h0 : 0 < (m : Int)
        · have hd0 : decide (0 < (m : Int)) = true := decide_eq_true h0
          rw [if_pos h0] at h
          have h0n : 0 < m := by omega
          have h0d : decide (0 < m) = true := decide_eq_true h0n
          clear h0
          cases ob with
          | true =>
            rw [if_pos rfl] at h
            obtain rfl := Option.some.inj h
            clear h H
            go_wp2_with (go_at_call 92; refine (Order.calls k none 0 [] A5 c5 (mostL a1 (62 + m)) true oso _ (Kd.C_nil _ _) (Nat.le_refl _) HC.out.2 HC.out.1 HO.out).mono ?_; rintro e_ w2 ⟨v2, rfl, hR, hb2⟩; obtain ⟨Ao, co, eo⟩ := Kd.R_slice hR; subst eo; have HB2 := Lib.hid (below_step HB.out hb2); clear hR hb2)
            go_ret
            exact ⟨rfl, HB2.out⟩
          | false =>
            rw [if_neg (by simp)] at h
            by_cases h1 : oso.length = 0
            · rw [if_pos h1] at h
              obtain ⟨lb, hlb, h⟩ := Option.bind_eq_some_iff.1 h
              have HLb := Lib.hid hlb
              obtain rfl := Option.some.inj h
              have hL : (toI oso).length = 0 := by unfold toI; rw [List.length_map]; exact h1
              clear h H hlb h1
              go_wp2_with (first | (go_at_call 92; refine (Order.calls k none 0 [] A5 c5 (mostL a1 (62 + m)) false oso _ (Kd.C_nil _ _) (Nat.le_refl _) HC.out.2 HC.out.1 HO.out).mono ?_; rintro e_ w2 ⟨v2, rfl, hR, hb2⟩; obtain ⟨Ao, co, eo⟩ := Kd.R_slice hR; subst eo; have HB2 := Lib.hid (below_step HB.out hb2); have HC2 := Lib.hid (And.intro HC.out.1 (Kd.C_below HC.out.2 hb2)); clear hR hb2) | (go_at_call 94; refine (Linear.calls k none 0 [] A5 c5 (mostL a1 (62 + m)) lb _ (Kd.C_nil _ _) (Nat.le_refl _) HC2.out.2 HC2.out.1 HLb.out).mono ?_; rintro e_ w3 ⟨rfl, hb3⟩; have HB3 := Lib.hid (below_step HB2.out hb3); clear hb3))
              go_ret
              exact ⟨rfl, HB3.out⟩
            · rw [if_neg h1] at h
              obtain rfl := Option.some.inj h
              have hL : ¬ (toI oso).length = 0 := by unfold toI; rw [List.length_map]; exact h1
              have hL2 : ¬ ((toI oso).length : Int) = 0 := by omega
              clear h H h1
              go_wp2_with (go_at_call 92; refine (Order.calls k none 0 [] A5 c5 (mostL a1 (62 + m)) false oso _ (Kd.C_nil _ _) (Nat.le_refl _) HC.out.2 HC.out.1 HO.out).mono ?_; rintro e_ w2 ⟨v2, rfl, hR, hb2⟩; obtain ⟨Ao, co, eo⟩ := Kd.R_slice hR; subst eo; have HB2 := Lib.hid (below_step HB.out hb2); clear hR hb2)
              go_ret
              exact ⟨rfl, HB2.out⟩
        · have hd0 : decide (0 < (m : Int)) = false := decide_eq_false h0
          rw [if_neg h0] at h
          have h0n : ¬ 0 < m := by omega
          have h0d : decide (0 < m) = false := decide_eq_false h0n
          clear h0
          cases ob with
          | false =>
            rw [if_neg (by simp)] at h
            obtain rfl := Option.some.inj h
            clear h H
            go_wp2_with (go_at_call 92; refine (Order.calls k none 0 [] A5 c5 (mostL a1 (62 + m)) false oso _ (Kd.C_nil _ _) (Nat.le_refl _) HC.out.2 HC.out.1 HO.out).mono ?_; rintro e_ w2 ⟨v2, rfl, hR, hb2⟩; obtain ⟨Ao, co, eo⟩ := Kd.R_slice hR; subst eo; have HB2 := Lib.hid (below_step HB.out hb2); clear hR hb2)
            go_ret
            exact ⟨rfl, HB2.out⟩
          | true =>
            rw [if_pos rfl] at h
            by_cases h1 : oso.length = 62
            · rw [if_pos h1] at h
              have HRr := Lib.hid (Option.some.inj h)
              have hL : (toI oso).length = 62 := by unfold toI; rw [List.length_map]; exact h1
              have hq : (rd (toI oso) 61) = (oso.getD 61 0 : Int) := by simp [rd, toI, h1]
              obtain ⟨t61, ht⟩ : ∃ t, t = rd (toI oso) 61 := ⟨_, rfl⟩
              have HT := Lib.hid ht
              have HQq := Lib.hid hq
              clear ht hq
              clear h H
              go_wp2_with (go_at_call 92; refine (Order.calls k none 0 [] A5 c5 (mostL a1 (62 + m)) true oso _ (Kd.C_nil _ _) (Nat.le_refl _) HC.out.2 HC.out.1 HO.out).mono ?_; rintro e_ w2 ⟨v2, rfl, hR, hb2⟩; obtain ⟨Ao, co, eo⟩ := Kd.R_slice hR; subst eo; obtain ⟨ad, ea, x0⟩ := Kd.at_int (Kd.R_reads' hR).2.2 61 (by decide) (by omega); subst ea; rw [← HT.out] at x0; have x1 : w2.cell? { block := ad.block, off := ad.off + 61 } = some (.int .i64 t61) := x0; have HB2 := Lib.hid (below_step HB.out hb2); clear hR hb2)
              go_ret
              exact ⟨by rw [← HRr.out, ← HQq.out, ← HT.out]; rfl, HB2.out⟩
            · rw [if_neg h1] at h
              obtain rfl := Option.some.inj h
              have hL : ¬ (toI oso).length = 62 := by unfold toI; rw [List.length_map]; exact h1
              have hL2 : ¬ ((toI oso).length : Int) = 62 := by omega
              clear h H
              go_wp2_with (go_at_call 92; refine (Order.calls k none 0 [] A5 c5 (mostL a1 (62 + m)) true oso _ (Kd.C_nil _ _) (Nat.le_refl _) HC.out.2 HC.out.1 HO.out).mono ?_; rintro e_ w2 ⟨v2, rfl, hR, hb2⟩; obtain ⟨Ao, co, eo⟩ := Kd.R_slice hR; subst eo; have HB2 := Lib.hid (below_step HB.out hb2); clear hR hb2)
              go_ret
              exact ⟨rfl, HB2.out⟩
  · rw [if_neg hneg] at h
    cases h
end Go.Proofs.Ytkoiffkonjpoiaa.Q
