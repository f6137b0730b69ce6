/- The text of some pairs, by hand: sixteen bytes for each of them. The pairs are fewer than 8796093022208. -/
import Derived.Test.YtkoiffkonjpoiaaQ0
import Derived.Laws.IdiomStrings
namespace Go.Proofs.Ytkoiffkonjpoiaa.Q
open Go.RowKit Go.Proofs.YtkoiffkonjpoiaaW.PrintWords Go.Proofs.YtkoiffkonjpoiaaW.PrintLast Go.Proofs.YtkoiffkonjpoiaaW.PrintMore Go.Proofs.YtkoiffkonjpoiaaX
attribute [local go_sem] max2_int min2_int max_two min_two max_three min_three max_four min_four
set_option linter.unusedVariables false
set_option linter.unusedSimpArgs false
/-- One byte of a number, and its eight. -/
def by1 (n : Int) (m : Nat) : Int := IntKind.u64.wrap n / 2 ^ (8 * m) % 256
def b8 (n : Int) : List Int := (List.range 8).map (by1 n)
theorem b8_take (n : Int) (m : Nat) (h : m < 8) : (b8 n).take (m + 1) = (b8 n).take m ++ [by1 n m] := by
  rw [List.take_add_one]
  congr 1
  simp [b8, List.getElem?_range h]
def textL (l : List S40) : List Int := l.flatMap fun p => b8 p.f0 ++ b8 p.f1
def txtU (l : List S40) : List UInt8 := (textL l).map fun x => UInt8.ofNat x.toNat
def txt (l : List S40) : ByteArray := ⟨(txtU l).toArray⟩
theorem textL_length (l : List S40) : (textL l).length = l.length * 16 := by
  induction l with
  | nil => rfl
  | cons p l ih => simp only [textL, List.flatMap_cons, List.length_append, List.length_cons] at ih ⊢; rw [ih]; simp [b8]; omega
theorem run_ix0 (a b : Int) (W : World) : (Instr.index 174 (.agg #[.int .i64 a, .int .i64 b]) (.int .i64 0)).run Try.prog W = .ok (.int .i64 a) W := by kernel_rfl
theorem run_ix1 (a b : Int) (W : World) : (Instr.index 174 (.agg #[.int .i64 a, .int .i64 b]) (.int .i64 1)).run Try.prog W = .ok (.int .i64 b) W := by kernel_rfl
theorem textL_byte (l : List S40) : ∀ x ∈ textL l, 0 ≤ x ∧ x < 256 := by
  intro x hx
  obtain ⟨p, _, hp⟩ := List.mem_flatMap.1 hx
  have : ∀ n, x ∈ b8 n → 0 ≤ x ∧ x < 256 := by
    intro n h
    obtain ⟨m, _, rfl⟩ := List.mem_map.1 h
    unfold by1
    omega
  rcases List.mem_append.1 hp with h | h
  · exact this _ h
  · exact this _ h
set_option maxHeartbeats 8000000 in
set_option maxRecDepth 100000 in
theorem text.calls (A : Option Addr) (c : Nat) (l : List S40) (w : World) (hr : Kd.C k40 w A l.length l) (hc : l.length ≤ c) (hm : l.length < 8796093022208) :
    Calls Try.prog 133 #[.slice A l.length c] w fun e w' => e = .returned (.string (txt l)) ∧ Below w.heap.size w w' := by
  have hu109 := Try.underlying109
  have hu34 := Try.underlying34
  have hu40 := Try.underlying40
  have hu174 := Try.underlying174
  have HR := Lib.hid hr
  have HC := Lib.hid hc
  clear hr hc
  have info5 : (Try.prog.info? 5).map (fun i => (i.zero, i.size, i.bytes)) = some (some (.int .u8 0), 1, 1) := by kernel_rfl
  obtain ⟨i5, hi5, hz5, hs5, hb5⟩ := info_parts info5
  go_enter Try.func133, Try.ntmps133
  go_upto_region 2 with (at_make; refine wpList_make_own _ rfl _ _ 109 rfl w.heap.size 5 i5 (.int .u8 0) 1 Try.underlying109 hi5 hz5 hs5 .i64 .i64 _ (16 * l.length) rfl rfl (by omega) (by rw [hb5]; omega) (by unfold maxLen; omega) (Nat.le_refl _) ?_; intro w1 hown hgrow)
  have HO : Hid (Kd.R (Kd.int .u8) 5 w1 w.heap.size (fun _ => True) (.slice (some ⟨w.heap.size, 0, none⟩) 0 (16 * l.length)) []) := Lib.hid ((R_iff (flat_int .u8)).2 ⟨fun _ _ => trivial, hown⟩)
  have HB := Lib.hid ((Below.refl w.heap.size w).grown hgrow (Nat.le_refl _) (by simp))
  clear hown hgrow hi5 hz5 hs5 hb5
  go_wp2_with fail
  go_loopg [15, 3] l.length (fun gk v15 v3 W => ∃ (i : Nat), v15 = .int .i64 (i : Int) ∧ i ≤ l.length ∧ l.length - i ≤ gk ∧ Hid (Kd.R (Kd.int .u8) 5 W w.heap.size (fun _ => True) v3 (textL (l.take i))) ∧ Hid (Below w.heap.size w W))
  case atStart => exact ⟨0, rfl, by omega, by omega, HO, HB⟩
  case round =>
    clear HO HB
    obtain ⟨i, rfl, hi1, hgk, HO, HB⟩ := hrel
    by_cases hi : i < l.length
    · obtain ⟨p, hp⟩ : ∃ p, p = rd_T40 l (i : Int) := ⟨_, rfl⟩
      obtain ⟨ad, e1, x0, x1⟩ := at_T40 (Kd.C_below HR.out HB.out) (i : Int) (by omega) (by omega)
      rw [← hp, Int.toNat_natCast] at x0
      rw [← hp, Int.toNat_natCast] at x1
      cases e1
      have hid : decide ((i : Int) < (l.length : Int)) = true := decide_eq_true (by omega)
      have hiw : IntKind.i64.wrap ((i : Int) + 1) = (i : Int) + 1 := by rw [IntKind.wrap_i64]; omega
      have htk : textL (l.take (i + 1)) = textL (l.take i) ++ (b8 p.f0 ++ b8 p.f1) := by
        have : p = l[i] := by rw [hp]; simp [rd_T40, hi]
        unfold textL
        rw [List.take_add_one, List.getElem?_eq_getElem hi, List.flatMap_append, this]
        simp
      have HT := Lib.hid htk
      have hlen : (textL (l.take i)).length = i * 16 := by rw [textL_length, List.length_take, Nat.min_eq_left hi1]
      obtain ⟨pre, hpre⟩ : ∃ pre, pre = textL (l.take i) := ⟨_, rfl⟩
      rw [← hpre] at hlen HO HT
      have HPre := Lib.hid hpre
      have HP := Lib.hid hp
      clear htk hpre hp
      go_wp2_with fail
      go_loopg [24, 3] 2 (fun gk v24 v3 W => ∃ (jz : Int) (bs : List Int), v24 = .int .i64 jz ∧ ((jz = 0 ∧ bs = []) ∨ (jz = 1 ∧ bs = b8 p.f0) ∨ (jz = 2 ∧ bs = b8 p.f0 ++ b8 p.f1)) ∧ 2 - jz ≤ gk ∧ Hid (Kd.R (Kd.int .u8) 5 W w.heap.size (fun _ => True) v3 (pre ++ bs)) ∧ Hid (Below w.heap.size w W))
      case atStart => exact ⟨0, [], rfl, .inl ⟨rfl, rfl⟩, by omega, Lib.hid (by rw [List.append_nil]; exact Kd.R_alloc HO.out _), Lib.hid (below_alloc HB.out _)⟩
      case round =>
        clear HO HB x0 x1
        obtain ⟨jz, bs, rfl, hj, hjg, HO, HB⟩ := hrel
        rcases hj with ⟨rfl, rfl⟩ | ⟨rfl, rfl⟩ | ⟨rfl, rfl⟩
        · have hix := run_ix0 p.f0 p.f1
          obtain ⟨pr, hpr⟩ : ∃ pr, pr = pre ++ [] := ⟨_, rfl⟩
          rw [← hpr] at HO
          have hprl : pr.length ≤ i * 16 + 8 := by rw [hpr]; simp [b8]; omega
          have HPr := Lib.hid hpr
          clear hpr
          go_wp2_with fail
          go_loopg [8, 3] 8 (fun gk v8 v3 W => ∃ (m : Nat), v8 = .int .i64 (8 * (m : Int)) ∧ m ≤ 8 ∧ 8 - m ≤ gk ∧ Hid (Kd.R (Kd.int .u8) 5 W w.heap.size (fun _ => True) v3 (pr ++ (b8 p.f0).take m)) ∧ Hid (Below w.heap.size w W))
          case atStart => exact ⟨0, by simp, by omega, by omega, Lib.hid (by rw [List.take_zero, List.append_nil]; exact HO.out), HB⟩
          case round =>
            clear HO HB
            obtain ⟨m, rfl, hm1, hmg, HO, HB⟩ := hrel
            by_cases hm : m < 8
            · have hmd : decide (8 * (m : Int) < 64) = true := decide_eq_true (by omega)
              have hw8 : IntKind.i64.wrap (8 * (m : Int) + 8) = 8 * ((m + 1 : Nat) : Int) := by rw [IntKind.wrap_i64]; omega
              have hle : (pr ++ (b8 p.f0).take m).length + 1 ≤ 140737488355328 := by simp [b8]; omega
              go_wp2_with (first | ((with_reducible refine gate_builtin (b := .append) (xs := #[.tmp 31, .tmp 37]) rfl ?_); at_builtin; refine Kd.R_append (Kd.int .u8) (w0 := w) w.heap.size rfl (.tmp 31) (.tmp 37) 109 5 (.int .u8 0) 1 rfl Try.underlying109 info5 rfl (by decide) (by omega) u3 (pr ++ (b8 p.f0).take m) (by1 p.f0 m) [.int .u8 (by1 p.f0 m)] (fun _ => True) (fun _ => False) rfl rfl rfl (fun _ hk => hk.elim) (fun _ _ => trivial) HO.out HB.out (below_size HB.out) (by omega) ?_; intro v1 w5 ho hb hg hat; have HO5 := Lib.hid ho; have HB5 := Lib.hid hb; clear ho hb hg hat))
              go_roundg (8 - (m + 1))
              case rel => exact ⟨m + 1, by first | rfl | exact congrArg _ hw8 | (simp; omega), by omega, by omega, Lib.hid (by rw [b8_take _ _ hm, ← List.append_assoc]; exact HO5.out), HB5⟩
              all_goals omega
            · obtain rfl : m = 8 := by omega
              have hmd : decide (8 * ((8 : Nat) : Int) < 64) = false := decide_eq_false (by omega)
              have HO8 : Hid (Kd.R (Kd.int .u8) 5 wr w.heap.size (fun _ => True) u3 (pre ++ b8 p.f0)) := Lib.hid (by have h := HO.out; rw [HPr.out, List.take_of_length_le (by simp [b8])] at h; simpa using h)
              go_wp2_with fail
              go_roundg 1
              case rel => exact ⟨_, _, by first | rfl | (simp; done), .inr (.inl ⟨rfl, rfl⟩), by omega, HO8, HB⟩
              all_goals omega
        · have hix := run_ix1 p.f0 p.f1
          obtain ⟨pr, hpr⟩ : ∃ pr, pr = pre ++ b8 p.f0 := ⟨_, rfl⟩
          rw [← hpr] at HO
          have hprl : pr.length ≤ i * 16 + 8 := by rw [hpr]; simp [b8]; omega
          have HPr := Lib.hid hpr
          clear hpr
          go_wp2_with fail
          go_loopg [8, 3] 8 (fun gk v8 v3 W => ∃ (m : Nat), v8 = .int .i64 (8 * (m : Int)) ∧ m ≤ 8 ∧ 8 - m ≤ gk ∧ Hid (Kd.R (Kd.int .u8) 5 W w.heap.size (fun _ => True) v3 (pr ++ (b8 p.f1).take m)) ∧ Hid (Below w.heap.size w W))
          case atStart => exact ⟨0, by simp, by omega, by omega, Lib.hid (by rw [List.take_zero, List.append_nil]; exact HO.out), HB⟩
          case round =>
            clear HO HB
            obtain ⟨m, rfl, hm1, hmg, HO, HB⟩ := hrel
            by_cases hm : m < 8
            · have hmd : decide (8 * (m : Int) < 64) = true := decide_eq_true (by omega)
              have hw8 : IntKind.i64.wrap (8 * (m : Int) + 8) = 8 * ((m + 1 : Nat) : Int) := by rw [IntKind.wrap_i64]; omega
              have hle : (pr ++ (b8 p.f1).take m).length + 1 ≤ 140737488355328 := by simp [b8]; omega
              go_wp2_with (first | ((with_reducible refine gate_builtin (b := .append) (xs := #[.tmp 31, .tmp 37]) rfl ?_); at_builtin; refine Kd.R_append (Kd.int .u8) (w0 := w) w.heap.size rfl (.tmp 31) (.tmp 37) 109 5 (.int .u8 0) 1 rfl Try.underlying109 info5 rfl (by decide) (by omega) u3 (pr ++ (b8 p.f1).take m) (by1 p.f1 m) [.int .u8 (by1 p.f1 m)] (fun _ => True) (fun _ => False) rfl rfl rfl (fun _ hk => hk.elim) (fun _ _ => trivial) HO.out HB.out (below_size HB.out) (by omega) ?_; intro v1 w5 ho hb hg hat; have HO5 := Lib.hid ho; have HB5 := Lib.hid hb; clear ho hb hg hat))
              go_roundg (8 - (m + 1))
              case rel => exact ⟨m + 1, by first | rfl | exact congrArg _ hw8 | (simp; omega), by omega, by omega, Lib.hid (by rw [b8_take _ _ hm, ← List.append_assoc]; exact HO5.out), HB5⟩
              all_goals omega
            · obtain rfl : m = 8 := by omega
              have hmd : decide (8 * ((8 : Nat) : Int) < 64) = false := decide_eq_false (by omega)
              have HO8 : Hid (Kd.R (Kd.int .u8) 5 wr w.heap.size (fun _ => True) u3 (pre ++ b8 p.f0 ++ b8 p.f1)) := Lib.hid (by have h := HO.out; rw [HPr.out, List.take_of_length_le (by simp [b8])] at h; simpa using h)
              go_wp2_with fail
              go_roundg 0
              case rel => exact ⟨_, _, by first | rfl | (simp; done), .inr (.inr ⟨rfl, rfl⟩), by omega, Lib.hid (by rw [← List.append_assoc]; exact HO8.out), HB⟩
              all_goals omega
        · have HO8 : Hid (Kd.R (Kd.int .u8) 5 wr w.heap.size (fun _ => True) u3 (textL (l.take (i + 1)))) := Lib.hid (by rw [HT.out]; exact HO.out)
          go_wp2_with fail
          go_roundg (l.length - (i + 1))
          case rel => exact ⟨i + 1, by first | rfl | exact congrArg _ hiw | (simp [hiw]), by omega, by omega, HO8, HB⟩
          all_goals omega
    · obtain rfl : i = l.length := by omega
      have hid : decide ((l.length : Int) < (l.length : Int)) = false := decide_eq_false (by omega)
      obtain ⟨bs, hbs⟩ : ∃ bs, bs = (textL l).map (fun x => UInt8.ofNat x.toNat) := ⟨_, rfl⟩
      have ht : txt l = ⟨bs.toArray⟩ := by rw [hbs]; rfl
      have HO8 := HO.out
      rw [List.take_length] at HO8
      obtain ⟨A3, c3, e3⟩ := Kd.R_slice HO8
      subst e3
      obtain ⟨h1, h2, h3⟩ := Kd.R_reads' HO8
      have hbl : bs.length = (textL l).length := by rw [hbs, List.length_map]
      have hcv : (convert 109 9 (.slice A3 (textL l).length c3)).run Try.prog wr = .ok (.string (txt l)) wr := by
        rw [ht, ← hbl]
        cases A3 with
        | none =>
          have h0 : textL l = [] := by
            rcases C_at (flat_int .u8) h3 with h | ⟨b, o, h, _⟩
            · cases hx : textL l with
              | nil => rfl
              | cons a r => rw [hx] at h; simp at h
            · cases h
          rw [h0] at hbs
          subst hbs
          rw [run_convert_bytes_string wr 109 9 5 none _ _ Try.underlying109 Try.underlying5 Try.underlying9]
          simp [Conv.bytesToString]
          rfl
        | some ad3 =>
          refine run_convert_bytes_back wr 109 9 5 ad3 c3 bs Try.underlying109 Try.underlying5 Try.underlying9 (fun j hj => ?_)
          have hj2 : j < (textL l).length := by omega
          have hu : bs[j].toNat = (textL l)[j].toNat ∧ 0 ≤ (textL l)[j] := by
            have hb := textL_byte l _ (List.getElem_mem hj2)
            have : bs[j] = UInt8.ofNat (textL l)[j].toNat := by simp [hbs]
            rw [this, UInt8.toNat_ofNat']
            omega
          rcases C_at (flat_int .u8) h3 with h | ⟨b, o, h, hcell⟩
          · cases hx : textL l with
            | nil => rw [hx] at hj2; simp at hj2
            | cons a r => rw [hx] at h; simp at h
          · obtain rfl := Option.some.inj h
            rw [add_lit']
            refine hcell j _ ?_
            have := flatMap_get (flat_int .u8) (textL l) j 0 _ _ (List.getElem?_eq_getElem hj2) rfl
            have hj1 : j * (Kd.int .u8).sz + 0 = j := by show j * 1 + 0 = j; omega
            rw [hj1] at this
            rw [this]
            congr 2
            omega
      clear HO HO8 h3
      go_wp2
      go_ret
      exact ⟨rfl, HB.out⟩
end Go.Proofs.Ytkoiffkonjpoiaa.Q
