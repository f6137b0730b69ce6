/- The walk of StoryOne, by hand: what the law does in memory, told by a plain function; under the contract's own conditions alone. -/
import Derived.Test.YtkoiffkonjpoiaaQM4
namespace Go.Proofs.Ytkoiffkonjpoiaa.Q
open Go.RowKit Go.Proofs.YtkoiffkonjpoiaaW.PrintWords Go.Proofs.YtkoiffkonjpoiaaW.PrintLast Go.Proofs.YtkoiffkonjpoiaaW.PrintMore Go.Proofs.YtkoiffkonjpoiaaX
attribute [local go_sem] max2_int min2_int max_two min_two max_three min_three max_four min_four
set_option linter.unusedVariables false
set_option linter.unusedSimpArgs false
theorem info126 : (Try.prog.info? 126).map (fun i => (i.zero, i.size, i.bytes)) = some (some (.agg #[(.int .u8 0), (.int .i64 0), (.int .i64 0), (.int .i64 0), (.int .u8 0), (.int .u8 0), (.int .u8 0)]), 7, 40) := by kernel_rfl
def oneL (d : S126) : List Value := [.int .u8 d.f0.f0, .int .i64 d.f0.f1, .int .i64 d.f0.f2, .int .i64 d.f0.f3, .int .u8 (d.f1.tmod 5), .int .u8 (d.f2.tmod 5), .int .u8 0]
theorem rangeI (xs : List Nat) : xs = List.range xs.length ↔ ∀ m, m < xs.length → (toI xs).getD m 0 = (m : Int) := by
  constructor
  · intro h m hm
    have h1 : (toI xs)[m]? = some (m : Int) := by
      rw [h]
      simp [toI, hm]
    rw [List.getD_eq_getElem?_getD, h1]
    rfl
  · intro h
    refine List.ext_getElem (by simp) (fun m h1 h2 => ?_)
    have := h m h1
    rw [List.getD_eq_getElem?_getD] at this
    simp [toI, h1] at this
    rw [List.getElem_range]
    omega
set_option maxHeartbeats 8000000 in
set_option maxRecDepth 100000 in
theorem boscagelaw22_StoryOne.calls (k : Nat) (A0 : Option Addr) (c0 : Nat) (l0 : List Int) (A1 : Option Addr) (c1 : Nat) (l1 : List S126) (a2 : Int) (a3 : Int) (r : Bool) (w : World) (hr0 : Kd.C (Kd.int .i64) w A0 l0.length l0) (hc0 : l0.length ≤ c0) (hr1 : Kd.C k126 w A1 l1.length l1) (hc1 : l1.length ≤ c1) (h : boscagelaw22_StoryOne.f k l0 l1 a2 a3 = some r) :
    Calls Try.prog 34 #[.slice A0 l0.length c0, .slice A1 l1.length c1, .int .u8 a2, .int .u8 a3] w fun e w' => e = .returned (.bool r) ∧ Below w.heap.size w w' := by
  have hu128 := Try.underlying128
  have hu84 := Try.underlying84
  have hu78 := Try.underlying78
  have HR0 := Lib.hid hr0
  have HC0 := Lib.hid hc0
  have hl0 := hr0.2.1
  have HR1 := Lib.hid hr1
  have HC1 := Lib.hid hc1
  have hl1 := hr1.2.1
  clear hr0 hc0 hr1 hc1
  unfold boscagelaw22_StoryOne.f at h
  by_cases hg : okDs l1 ∧ okB a2 ∧ okB a3
  case neg => rw [if_neg hg] at h; cases h
  rw [if_pos hg] at h
  obtain ⟨hD, hwh, hwt⟩ := hg
  have HD := Lib.hid hD
  have HWh := Lib.hid hwh
  have HWt := Lib.hid hwt
  clear hD hwh hwt
  by_cases hbig : 8 < l0.length ∨ 30 < l1.length
  case pos =>
    rw [if_pos hbig] at h
    obtain rfl := Option.some.inj h
    clear h
    obtain ⟨fb, hfb⟩ : ∃ fb, (decide ((l0.length : Int) ≤ 8) && decide ((l1.length : Int) ≤ 30)) = fb := ⟨_, rfl⟩
    have HFew := Lib.hid hfb
    cases fb with
    | false =>
      clear hbig hfb
      go_enter Try.func34, Try.ntmps34
      go_wp2_with (first | (go_at_call 84; refine (Awake22.calls _).mono ?_; rintro e_ w1 ⟨rfl, hb⟩; have HB1 := Lib.hid hb; clear hb) | (go_at_call 85; refine (few22.calls A0 c0 l0 A1 c1 l1 30 _ _ HFew.out).mono ?_; rintro e_ w2 ⟨rfl, hb⟩; have HB2 := Lib.hid (below_step HB1.out hb); clear hb))
      go_ret
      exact ⟨rfl, HB2.out⟩
    | true =>
      rw [Bool.and_eq_true, decide_eq_true_iff, decide_eq_true_iff] at hfb
      omega
  rw [if_neg hbig] at h
  have HFew : Hid ((decide ((l0.length : Int) ≤ 8) && decide ((l1.length : Int) ≤ 30)) = true) := Lib.hid (by rw [decide_eq_true (by omega), decide_eq_true (by omega)]; rfl)
  have hn1 : l1.length ≤ 1000 := by omega
  clear hbig
  obtain ⟨first, hL, h⟩ := Option.bind_eq_some_iff.1 h
  obtain ⟨h0, hH, h⟩ := Option.bind_eq_some_iff.1 h
  have hq0 : h0.length = (l1.map oneD).length := histGo_length k _ 0 _ _ hH
  obtain ⟨ones, hones⟩ : ∃ ones, l1.map oneD = ones := ⟨_, rfl⟩
  rw [hones] at hH hq0
  have hno : ones.length ≤ 1000 := by rw [← hones, List.length_map]; exact hn1
  have hnh : h0.length ≤ 1000 := by omega
  have hdo : okDs ones := by
    rw [← hones]
    intro x hx
    obtain ⟨d, hd, rfl⟩ := List.mem_map.1 hx
    obtain ⟨g1, g2, g3⟩ := HD.out d hd
    exact ⟨Int.tmod_nonneg 5 g1, Int.tmod_nonneg 5 g2, by show (0 : Int) ≤ 0; omega⟩
  obtain ⟨⟨ob, oso⟩, hO, h⟩ := Option.bind_eq_some_iff.1 h
  obtain ⟨xs, hxs⟩ : ∃ xs, toI oso = xs := ⟨_, rfl⟩
  have hxl : oso.length = xs.length := by rw [← hxs]; simp [toI]
  have hrange := rangeI oso
  rw [hxs, hxl] at hrange
  dsimp only at h
  rw [hxl] at h
  have HRange := Lib.hid hrange
  have HOnes := Lib.hid hones
  have HDo := Lib.hid hdo
  have HL := Lib.hid hL
  have HH : Hid (History.f k first ones = some h0) := Lib.hid hH
  have HO := Lib.hid hO
  have HXs := Lib.hid hxs
  clear hL hH hones hdo hq0 hO hxs hxl hrange
  cases ob with
  | false =>
    rw [if_neg (by simp)] at h
    obtain rfl := Option.some.inj h
    clear h
    go_enter Try.func34, Try.ntmps34
    go_upto_block 0 with (first | (go_at_call 84; refine (Awake22.calls _).mono ?_; rintro e_ w1 ⟨rfl, hb⟩; have HB1 := Lib.hid hb; clear hb) | (go_at_call 85; refine (few22.calls A0 c0 l0 A1 c1 l1 30 _ _ HFew.out).mono ?_; rintro e_ w2 ⟨rfl, hb⟩; have HB2 := Lib.hid (below_step HB1.out hb); clear hb))
    have HO0 : Hid (Kd.R k126 126 w2 w.heap.size (fun _ => True) (.slice none 0 0) ((l1.take 0).map oneD)) := Lib.hid (Kd.R_nil _ _ _ _ _)
    go_wp2_with fail
    go_loopg [26, 9] l1.length (fun gk v26 v9 W => ∃ (i : Nat), v26 = .int .i64 (i : Int) ∧ i ≤ l1.length ∧ l1.length - i ≤ gk ∧ Hid (Kd.R k126 126 W w.heap.size (fun _ => True) v9 ((l1.take i).map oneD)) ∧ Hid (Below w.heap.size w W))
    case atStart => exact ⟨0, rfl, by omega, by omega, HO0, HB2⟩
    case round =>
      clear HO0 HB2
      obtain ⟨i, rfl, hi1, hgk, HO1, HB1⟩ := hrel
      by_cases hi : i < l1.length
      · obtain ⟨d, hde⟩ : ∃ d, d = rd_T126 l1 (i : Int) := ⟨_, rfl⟩
        have htake : l1.take (i + 1) = l1.take i ++ [d] := by
          rw [List.take_add_one, List.getElem?_eq_getElem hi, hde]
          simp [rd_T126, hi]
        obtain ⟨ad, e1, x0, x1, x2, x3, x4, x5, x6⟩ := at_T126 (Kd.C_below HR1.out HB1.out) (i : Int) (by omega) (by omega)
        rw [← hde, Int.toNat_natCast] at x0 x1 x2 x3 x4 x5 x6
        have HTk := Lib.hid htake
        clear hde htake
        cases e1
        have hid : decide ((i : Int) < (l1.length : Int)) = true := decide_eq_true (by omega)
        have hiw : IntKind.i64.wrap ((i : Int) + 1) = (i : Int) + 1 := by rw [IntKind.wrap_i64]; omega
        have hle : (((l1.take i).map oneD).length + 1) * 40 ≤ 140737488355328 := by simp; omega
        go_upto_region 9 with (fail)
        refine find.settle (p := fun W => Code.wp _ _ _ _ W) (R := fun W => Hid (W.heap[wr.heap.size]? = some (.cells (deA d) 126 (0, 0))) ∧ Hid (Kd.R k126 126 W w.heap.size (fun _ => True) u9 ((l1.take i).map oneD)) ∧ Hid (Below w.heap.size w W)) ⟨Lib.hid (heap_alloc_new _ _), Lib.hid (Kd.R_alloc HO1.out _), Lib.hid (below_alloc HB1.out _)⟩ ?_
        clear x0 x1 x2 x3 x4 x5 x6 HO1 HB1
        rintro wA ⟨HZ, HO1, HB1⟩
        obtain ⟨y0, y1, y2, y3, y4, y5, y6⟩ := de_cells HZ.out
        go_wp2_with ((with_reducible refine gate_builtin (b := .append) (xs := #[.tmp 30, .tmp 40]) rfl ?_); at_builtin; refine Kd.R_append k126 (w0 := w) w.heap.size rfl (.tmp 30) (.tmp 40) 108 126 (.agg #[(.int .u8 0), (.int .i64 0), (.int .i64 0), (.int .i64 0), (.int .u8 0), (.int .u8 0), (.int .u8 0)]) 40 rfl Try.underlying108 info126 rfl (by decide) (by omega) u9 ((l1.take i).map oneD) (oneD d) (oneL d) (fun _ => True) (fun _ => False) rfl rfl (k126_mkM _ _ _ (oneD d)) (fun _ hk => hk.elim) (fun _ _ => trivial) HO1.out HB1.out (below_size HB1.out) hle ?_; intro v1 wB ho hb hg hat; have HO5 : Hid (Kd.R k126 126 wB w.heap.size (fun _ => True) v1 ((l1.take (i + 1)).map oneD)) := Lib.hid (by rw [HTk.out, List.map_append]; exact ho); have HB5 := Lib.hid hb; clear ho hb hg hat)
        go_roundg (l1.length - (i + 1))
        case rel => exact ⟨i + 1, by first | rfl | exact congrArg _ hiw | (simp [hiw]), by omega, by omega, HO5, HB5⟩
        all_goals omega
      · obtain rfl : i = l1.length := by omega
        have hid : decide ((l1.length : Int) < (l1.length : Int)) = false := decide_eq_false (by omega)
        have hO9 := HO1.out
        rw [List.take_length, HOnes.out] at hO9
        obtain ⟨A9, c9, e9⟩ := Kd.R_slice hO9
        subst e9
        have HOn := Lib.hid hO9
        have HBo := HB1
        clear hO9 HO1 HB1
        go_wp2_with (first | (go_at_call 44; refine (boscagelaw02_Rising.calls k _ _ l0 first _ ?_ HC0.out HL.out).mono ?_; (exact Kd.C_below HR0.out HBo.out); rintro e_ w3 ⟨vL, rfl, ho, hb⟩; obtain ⟨Al, cl, eL⟩ := Kd.R_slice ho; subst eL; have CL := Lib.hid (Kd.R_reads' ho).2; have HO3 := Lib.hid (Kd.R_below HOn.out hb); have HB3 := Lib.hid (below_step HBo.out hb); clear ho hb) | (go_at_call 88; refine (History.calls k Al cl first A9 c9 ones h0 _ CL.out.2 CL.out.1 (Kd.R_reads' HO3.out).2.2 (Kd.R_reads' HO3.out).2.1 HDo.out hno HH.out).mono ?_; rintro e_ w4 ⟨v4, rfl, hR, hb⟩; obtain ⟨A4, c4, e4⟩ := Kd.R_slice hR; subst e4; have HR4 := Lib.hid (Kd.R_lower hR (below_size HB3.out)); have HB4 := Lib.hid (below_step HB3.out hb); have CL4 := Lib.hid (And.intro CL.out.1 (Kd.C_below CL.out.2 hb)); clear hR hb) | (go_at_call 92; refine (Order.calls k Al cl first A4 c4 h0 false oso _ CL4.out.2 CL4.out.1 (Kd.R_reads' HR4.out).2.2 (Kd.R_reads' HR4.out).2.1 HO.out).mono ?_; rintro e_ w7 ⟨v7, rfl, hR, hb⟩; rw [HXs.out] at hR; obtain ⟨A7, c7, e7⟩ := Kd.R_slice hR; subst e7; have HR7 := Lib.hid (Kd.R_reads' hR).2; have HB7 := Lib.hid (below_step HB4.out hb); have CL7 := Lib.hid (And.intro CL4.out.1 (Kd.C_below CL4.out.2 hb)); have HH7 := Lib.hid (Kd.R_below HR4.out hb); clear hR hb))
        go_ret
        exact ⟨rfl, HB7.out⟩
  | true =>
    by_cases hlen : xs.length = h0.length
    · rw [if_pos ⟨rfl, hlen⟩] at h
      have HR := Lib.hid h
      have hlb1 : ((xs.length : Int) != (h0.length : Int)) = false := by simp [hlen]
      have hlb2 : ((xs.length : Int) == (h0.length : Int)) = true := by simp [hlen]
      have hlb3 : decide ((xs.length : Int) = (h0.length : Int)) = true := by simp [hlen]
      have hlb4 : (xs.length : Int) = (h0.length : Int) := by omega
      clear h hlen
      go_enter Try.func34, Try.ntmps34
      go_upto_block 0 with (first | (go_at_call 84; refine (Awake22.calls _).mono ?_; rintro e_ w1 ⟨rfl, hb⟩; have HB1 := Lib.hid hb; clear hb) | (go_at_call 85; refine (few22.calls A0 c0 l0 A1 c1 l1 30 _ _ HFew.out).mono ?_; rintro e_ w2 ⟨rfl, hb⟩; have HB2 := Lib.hid (below_step HB1.out hb); clear hb))
      have HO0 : Hid (Kd.R k126 126 w2 w.heap.size (fun _ => True) (.slice none 0 0) ((l1.take 0).map oneD)) := Lib.hid (Kd.R_nil _ _ _ _ _)
      go_wp2_with fail
      go_loopg [26, 9] l1.length (fun gk v26 v9 W => ∃ (i : Nat), v26 = .int .i64 (i : Int) ∧ i ≤ l1.length ∧ l1.length - i ≤ gk ∧ Hid (Kd.R k126 126 W w.heap.size (fun _ => True) v9 ((l1.take i).map oneD)) ∧ Hid (Below w.heap.size w W))
      case atStart => exact ⟨0, rfl, by omega, by omega, HO0, HB2⟩
      case round =>
        clear HO0 HB2
        obtain ⟨i, rfl, hi1, hgk, HO1, HB1⟩ := hrel
        by_cases hi : i < l1.length
        · obtain ⟨d, hde⟩ : ∃ d, d = rd_T126 l1 (i : Int) := ⟨_, rfl⟩
          have htake : l1.take (i + 1) = l1.take i ++ [d] := by
            rw [List.take_add_one, List.getElem?_eq_getElem hi, hde]
            simp [rd_T126, hi]
          obtain ⟨ad, e1, x0, x1, x2, x3, x4, x5, x6⟩ := at_T126 (Kd.C_below HR1.out HB1.out) (i : Int) (by omega) (by omega)
          rw [← hde, Int.toNat_natCast] at x0 x1 x2 x3 x4 x5 x6
          have HTk := Lib.hid htake
          clear hde htake
          cases e1
          have hid : decide ((i : Int) < (l1.length : Int)) = true := decide_eq_true (by omega)
          have hiw : IntKind.i64.wrap ((i : Int) + 1) = (i : Int) + 1 := by rw [IntKind.wrap_i64]; omega
          have hle : (((l1.take i).map oneD).length + 1) * 40 ≤ 140737488355328 := by simp; omega
          go_upto_region 9 with (fail)
          refine find.settle (p := fun W => Code.wp _ _ _ _ W) (R := fun W => Hid (W.heap[wr.heap.size]? = some (.cells (deA d) 126 (0, 0))) ∧ Hid (Kd.R k126 126 W w.heap.size (fun _ => True) u9 ((l1.take i).map oneD)) ∧ Hid (Below w.heap.size w W)) ⟨Lib.hid (heap_alloc_new _ _), Lib.hid (Kd.R_alloc HO1.out _), Lib.hid (below_alloc HB1.out _)⟩ ?_
          clear x0 x1 x2 x3 x4 x5 x6 HO1 HB1
          rintro wA ⟨HZ, HO1, HB1⟩
          obtain ⟨y0, y1, y2, y3, y4, y5, y6⟩ := de_cells HZ.out
          go_wp2_with ((with_reducible refine gate_builtin (b := .append) (xs := #[.tmp 30, .tmp 40]) rfl ?_); at_builtin; refine Kd.R_append k126 (w0 := w) w.heap.size rfl (.tmp 30) (.tmp 40) 108 126 (.agg #[(.int .u8 0), (.int .i64 0), (.int .i64 0), (.int .i64 0), (.int .u8 0), (.int .u8 0), (.int .u8 0)]) 40 rfl Try.underlying108 info126 rfl (by decide) (by omega) u9 ((l1.take i).map oneD) (oneD d) (oneL d) (fun _ => True) (fun _ => False) rfl rfl (k126_mkM _ _ _ (oneD d)) (fun _ hk => hk.elim) (fun _ _ => trivial) HO1.out HB1.out (below_size HB1.out) hle ?_; intro v1 wB ho hb hg hat; have HO5 : Hid (Kd.R k126 126 wB w.heap.size (fun _ => True) v1 ((l1.take (i + 1)).map oneD)) := Lib.hid (by rw [HTk.out, List.map_append]; exact ho); have HB5 := Lib.hid hb; clear ho hb hg hat)
          go_roundg (l1.length - (i + 1))
          case rel => exact ⟨i + 1, by first | rfl | exact congrArg _ hiw | (simp [hiw]), by omega, by omega, HO5, HB5⟩
          all_goals omega
        · obtain rfl : i = l1.length := by omega
          have hid : decide ((l1.length : Int) < (l1.length : Int)) = false := decide_eq_false (by omega)
          have hO9 := HO1.out
          rw [List.take_length, HOnes.out] at hO9
          obtain ⟨A9, c9, e9⟩ := Kd.R_slice hO9
          subst e9
          have HOn := Lib.hid hO9
          have HBo := HB1
          clear hO9 HO1 HB1
          go_upto_block 2 with (first | (go_at_call 44; refine (boscagelaw02_Rising.calls k _ _ l0 first _ ?_ HC0.out HL.out).mono ?_; (exact Kd.C_below HR0.out HBo.out); rintro e_ w3 ⟨vL, rfl, ho, hb⟩; obtain ⟨Al, cl, eL⟩ := Kd.R_slice ho; subst eL; have CL := Lib.hid (Kd.R_reads' ho).2; have HO3 := Lib.hid (Kd.R_below HOn.out hb); have HB3 := Lib.hid (below_step HBo.out hb); clear ho hb) | (go_at_call 88; refine (History.calls k Al cl first A9 c9 ones h0 _ CL.out.2 CL.out.1 (Kd.R_reads' HO3.out).2.2 (Kd.R_reads' HO3.out).2.1 HDo.out hno HH.out).mono ?_; rintro e_ w4 ⟨v4, rfl, hR, hb⟩; obtain ⟨A4, c4, e4⟩ := Kd.R_slice hR; subst e4; have HR4 := Lib.hid (Kd.R_lower hR (below_size HB3.out)); have HB4 := Lib.hid (below_step HB3.out hb); have CL4 := Lib.hid (And.intro CL.out.1 (Kd.C_below CL.out.2 hb)); clear hR hb) | (go_at_call 92; refine (Order.calls k Al cl first A4 c4 h0 true oso _ CL4.out.2 CL4.out.1 (Kd.R_reads' HR4.out).2.2 (Kd.R_reads' HR4.out).2.1 HO.out).mono ?_; rintro e_ w7 ⟨v7, rfl, hR, hb⟩; rw [HXs.out] at hR; obtain ⟨A7, c7, e7⟩ := Kd.R_slice hR; subst e7; have HR7 := Lib.hid (Kd.R_reads' hR).2; have HB7 := Lib.hid (below_step HB4.out hb); have CL7 := Lib.hid (And.intro CL4.out.1 (Kd.C_below CL4.out.2 hb)); have HH7 := Lib.hid (Kd.R_below HR4.out hb); clear hR hb))
          go_wp2_with fail
          go_loopg [65] xs.length (fun gk v65 W => ∃ (i : Nat), v65 = .int .i64 (i : Int) ∧ i ≤ xs.length ∧ xs.length - i ≤ gk ∧ Hid (∀ m, m < i → xs.getD m 0 = (m : Int)) ∧ Hid (Below w7.heap.size w7 W))
          case atStart => exact ⟨0, rfl, by omega, by omega, Lib.hid (fun m hm => by omega), Lib.hid (Below.refl _ _)⟩
          case round =>
            obtain ⟨i, rfl, hi1, hgk, HE, HBw⟩ := hrel
            by_cases hi : i < xs.length
            · obtain ⟨ad2, e2, y0⟩ := Kd.at_int (Kd.C_below HR7.out.2 HBw.out) (i : Int) (by omega) (by omega)
              cases e2
              rw [Int.toNat_natCast] at y0
              obtain ⟨x, hx⟩ : ∃ x, x = rd xs (i : Int) := ⟨_, rfl⟩
              rw [← hx] at y0
              have HXY := Lib.hid hx
              clear hx
              have hid : decide ((i : Int) < (xs.length : Int)) = true := decide_eq_true (by omega)
              have hiw : IntKind.i64.wrap ((i : Int) + 1) = (i : Int) + 1 := by
                have := HR7.out.2.2.1
                rw [IntKind.wrap_i64]; omega
              by_cases hxy : x = (i : Int)
              · have HE2 : Hid (∀ m, m < i + 1 → xs.getD m 0 = (m : Int)) := Lib.hid (fun m hm => by
                  rcases Nat.lt_or_ge m i with h1 | h1
                  · exact HE.out m h1
                  · obtain rfl : m = i := by omega
                    exact HXY.out.symm.trans hxy)
                subst hxy
                go_wp2_with fail
                go_roundg (xs.length - (i + 1))
                case rel => exact ⟨i + 1, by first | rfl | exact congrArg _ hiw | (simp [hiw]), by omega, by omega, HE2, HBw⟩
                all_goals omega
              · have hb1 : (x == (i : Int)) = false := by rw [beq_eq_false_iff_ne]; exact hxy
                have hb2 : decide (x = (i : Int)) = false := decide_eq_false hxy
                have hrf : r = false := by
                  have h := HR.out
                  rw [if_neg (fun he => hxy (HXY.out.trans ((HRange.out.1 he) i hi)))] at h
                  exact (Option.some.inj h).symm
                subst hrf
                go_wp2_with fail
                go_ret
                exact ⟨rfl, below_step HB7.out HBw.out⟩
            · obtain rfl : i = xs.length := by omega
              have hid : decide ((xs.length : Int) < (xs.length : Int)) = false := decide_eq_false (by omega)
              have h := HR.out
              rw [if_pos (HRange.out.2 HE.out)] at h
              clear HR HE
              by_cases q0 : h0.length = 0
              · rw [if_pos (.inl q0)] at h
                obtain rfl := Option.some.inj h
                have q0b : ((h0.length : Int) == 0) = true := by rw [beq_iff_eq]; omega
                have q0d : decide ((h0.length : Int) = 0) = true := decide_eq_true (by omega)
                clear h q0
                go_wp2_with fail
                go_ret
                exact ⟨rfl, below_step HB7.out HBw.out⟩
              have q0b : ((h0.length : Int) == 0) = false := by rw [beq_eq_false_iff_ne]; omega
              have q0d : decide ((h0.length : Int) = 0) = false := decide_eq_false (by omega)
              have q0n : ¬ (h0.length : Int) = 0 := by omega
              by_cases q1 : a3.tmod 6 = 0
              · rw [if_pos (.inr (.inl q1))] at h
                obtain rfl := Option.some.inj h
                clear h q0
                go_wp2_with fail
                go_ret
                exact ⟨rfl, below_step HB7.out HBw.out⟩
              have q1b : (a3.tmod 6 == 0) = false := by rw [beq_eq_false_iff_ne]; exact q1
              have q1d : decide (a3.tmod 6 = 0) = false := decide_eq_false q1
              by_cases q2 : a3.tmod 6 = 5
              · rw [if_pos (.inr (.inr (.inl q2)))] at h
                obtain rfl := Option.some.inj h
                clear h q0 q1 q1b q1d
                go_wp2_with fail
                go_ret
                exact ⟨rfl, below_step HB7.out HBw.out⟩
              have q2b : (a3.tmod 6 == 5) = false := by rw [beq_eq_false_iff_ne]; exact q2
              have q2d : decide (a3.tmod 6 = 5) = false := decide_eq_false q2
              have Q1 := Lib.hid (And.intro q1b (And.intro q1d (And.intro q2b q2d)))
              by_cases q3 : a3.tmod 6 = 4
              · obtain ⟨nn, rfl⟩ := Int.eq_ofNat_of_zero_le HWh.out.1
                obtain ⟨j, hj⟩ : ∃ j, j = nn % h0.length := ⟨_, rfl⟩
                have hjl : j < h0.length := by rw [hj]; exact Nat.mod_lt _ (by omega)
                obtain ⟨e, he⟩ : ∃ e, e = rd_T128 h0 (j : Int) := ⟨_, rfl⟩
                rw [Int.toNat_natCast, ← hj, ← he] at h
                have hjm : (nn : Int).tmod (h0.length : Int) = (j : Int) := by rw [hj, Int.ofNat_tmod]
                have hjd : decide ((j : Int) < (h0.length : Int)) = true := decide_eq_true (by omega)
                have hjd2 : decide (j < h0.length) = true := decide_eq_true hjl
                obtain ⟨ad, A11, c11, e1, x0, x1, x2, x3, x4, x5, x6, x7, x8, x9, x10, x11, x12, l11, g11⟩ := ev_at (Kd.R_reads' HH7.out).2.2 HBw.out j hjl e he
                have HH7' := HH7
                have HEe := Lib.hid he
                have HJj := Lib.hid hj
                clear l11 g11 he hj x0 x1 x2 x3 x4 x5 x6 x8 x9 x10 x11 x12
                cases e1
                by_cases q4 : e.f4.f0 = 10
                · rw [if_pos (.inr (.inr (.inr ⟨q3, q4⟩)))] at h
                  obtain rfl := Option.some.inj h
                  have hnw := wrap_small nn (by have := HWh.out.2; omega)
                  clear h q0 q1 q2 q1b q1d q2b q2d
                  go_wp2_with fail
                  go_ret
                  exact ⟨rfl, below_step HB7.out HBw.out⟩
                · have q4b : (e.f4.f0 == 10) = false := by rw [beq_eq_false_iff_ne]; exact q4
                  have q4d : decide (e.f4.f0 = 10) = false := decide_eq_false q4
                  rw [if_neg (by rintro (g | g | g | g); exact q0 g; exact q1 g; exact q2 g; exact q4 g.2)] at h
                  obtain ⟨lb, hLb, h⟩ := Option.bind_eq_some_iff.1 h
                  obtain rfl := Option.some.inj h
                  obtain ⟨h2, hh2⟩ : ∃ h2, Spoilt.f h0 (nn : Int) a3 = h2 := ⟨_, rfl⟩
                  rw [hh2] at hLb
                  have HLb := Lib.hid hLb
                  have HS2 := Lib.hid hh2
                  have hnw := wrap_small nn (by have := HWh.out.2; omega)
                  clear h q0 q1 q2 q1b q1d q2b q2d q4 hLb hh2
                  go_wp2_with (first | (go_at_call 86; refine (Spoilt.calls _ c4 h0 (nn : Int) a3 w.heap.size _ (Kd.R_below HH7.out HBw.out) (Nat.le_trans (below_size HB7.out) HBw.out.size) HWh.out HWt.out hnh).mono ?_; rintro e_ w8 ⟨v8, rfl, hR, hb⟩; rw [HS2.out] at hR; obtain ⟨A8, c8, e8⟩ := Kd.R_slice hR; subst e8; have HR8 := Lib.hid (Kd.R_reads' hR).2; have HB8 := Lib.hid (below_step (below_step HB7.out HBw.out) hb); have CL8 := Lib.hid (And.intro CL7.out.1 (Kd.C_below (Kd.C_below CL7.out.2 HBw.out) hb)); clear hR hb) | (go_at_call 94; refine (Linear.calls k Al cl first A8 c8 h2 lb _ CL8.out.2 CL8.out.1 HR8.out.2 HR8.out.1 HLb.out).mono ?_; rintro e_ w9 ⟨rfl, hb⟩; have HB9 := Lib.hid (below_step HB8.out hb); clear hb))
                  go_ret
                  exact ⟨by first | rfl | simp, HB9.out⟩
              · have q3b : (a3.tmod 6 == 4) = false := by rw [beq_eq_false_iff_ne]; exact q3
                have q3d : decide (a3.tmod 6 = 4) = false := decide_eq_false q3
                rw [if_neg (by rintro (g | g | g | g); exact q0 g; exact q1 g; exact q2 g; exact q3 g.1)] at h
                obtain ⟨lb, hLb, h⟩ := Option.bind_eq_some_iff.1 h
                obtain rfl := Option.some.inj h
                obtain ⟨h2, hh2⟩ : ∃ h2, Spoilt.f h0 a2 a3 = h2 := ⟨_, rfl⟩
                rw [hh2] at hLb
                have HLb := Lib.hid hLb
                have HS2 := Lib.hid hh2
                clear h q0 q1 q2 q3 q1b q1d q2b q2d hLb hh2
                have q1b : (a3.tmod 6 == 0) = false := Q1.out.1
                have q1d : decide (a3.tmod 6 = 0) = false := Q1.out.2.1
                have q2b : (a3.tmod 6 == 5) = false := Q1.out.2.2.1
                have q2d : decide (a3.tmod 6 = 5) = false := Q1.out.2.2.2
                go_wp2_with (first | (go_at_call 86; refine (Spoilt.calls A4 c4 h0 a2 a3 w.heap.size _ (Kd.R_below HH7.out HBw.out) (Nat.le_trans (below_size HB7.out) HBw.out.size) HWh.out HWt.out hnh).mono ?_; rintro e_ w8 ⟨v8, rfl, hR, hb⟩; rw [HS2.out] at hR; obtain ⟨A8, c8, e8⟩ := Kd.R_slice hR; subst e8; have HR8 := Lib.hid (Kd.R_reads' hR).2; have HB8 := Lib.hid (below_step (below_step HB7.out HBw.out) hb); have CL8 := Lib.hid (And.intro CL7.out.1 (Kd.C_below (Kd.C_below CL7.out.2 HBw.out) hb)); clear hR hb) | (go_at_call 94; refine (Linear.calls k Al cl first A8 c8 h2 lb _ CL8.out.2 CL8.out.1 HR8.out.2 HR8.out.1 HLb.out).mono ?_; rintro e_ w9 ⟨rfl, hb⟩; have HB9 := Lib.hid (below_step HB8.out hb); clear hb))
                go_ret
                exact ⟨by first | rfl | simp, HB9.out⟩
    · rw [if_neg (fun g => hlen g.2)] at h
      obtain rfl := Option.some.inj h
      have hlb1 : ((xs.length : Int) != (h0.length : Int)) = true := by rw [bne_iff_ne]; omega
      have hlb2 : ((xs.length : Int) == (h0.length : Int)) = false := by rw [beq_eq_false_iff_ne]; omega
      have hlb3 : decide ((xs.length : Int) = (h0.length : Int)) = false := decide_eq_false (by omega)
      have hlb4 : ¬ (xs.length : Int) = (h0.length : Int) := by omega
      clear h hlen
      go_enter Try.func34, Try.ntmps34
      go_upto_block 0 with (first | (go_at_call 84; refine (Awake22.calls _).mono ?_; rintro e_ w1 ⟨rfl, hb⟩; have HB1 := Lib.hid hb; clear hb) | (go_at_call 85; refine (few22.calls A0 c0 l0 A1 c1 l1 30 _ _ HFew.out).mono ?_; rintro e_ w2 ⟨rfl, hb⟩; have HB2 := Lib.hid (below_step HB1.out hb); clear hb))
      have HO0 : Hid (Kd.R k126 126 w2 w.heap.size (fun _ => True) (.slice none 0 0) ((l1.take 0).map oneD)) := Lib.hid (Kd.R_nil _ _ _ _ _)
      go_wp2_with fail
      go_loopg [26, 9] l1.length (fun gk v26 v9 W => ∃ (i : Nat), v26 = .int .i64 (i : Int) ∧ i ≤ l1.length ∧ l1.length - i ≤ gk ∧ Hid (Kd.R k126 126 W w.heap.size (fun _ => True) v9 ((l1.take i).map oneD)) ∧ Hid (Below w.heap.size w W))
      case atStart => exact ⟨0, rfl, by omega, by omega, HO0, HB2⟩
      case round =>
        clear HO0 HB2
        obtain ⟨i, rfl, hi1, hgk, HO1, HB1⟩ := hrel
        by_cases hi : i < l1.length
        · obtain ⟨d, hde⟩ : ∃ d, d = rd_T126 l1 (i : Int) := ⟨_, rfl⟩
          have htake : l1.take (i + 1) = l1.take i ++ [d] := by
            rw [List.take_add_one, List.getElem?_eq_getElem hi, hde]
            simp [rd_T126, hi]
          obtain ⟨ad, e1, x0, x1, x2, x3, x4, x5, x6⟩ := at_T126 (Kd.C_below HR1.out HB1.out) (i : Int) (by omega) (by omega)
          rw [← hde, Int.toNat_natCast] at x0 x1 x2 x3 x4 x5 x6
          have HTk := Lib.hid htake
          clear hde htake
          cases e1
          have hid : decide ((i : Int) < (l1.length : Int)) = true := decide_eq_true (by omega)
          have hiw : IntKind.i64.wrap ((i : Int) + 1) = (i : Int) + 1 := by rw [IntKind.wrap_i64]; omega
          have hle : (((l1.take i).map oneD).length + 1) * 40 ≤ 140737488355328 := by simp; omega
          go_upto_region 9 with (fail)
          refine find.settle (p := fun W => Code.wp _ _ _ _ W) (R := fun W => Hid (W.heap[wr.heap.size]? = some (.cells (deA d) 126 (0, 0))) ∧ Hid (Kd.R k126 126 W w.heap.size (fun _ => True) u9 ((l1.take i).map oneD)) ∧ Hid (Below w.heap.size w W)) ⟨Lib.hid (heap_alloc_new _ _), Lib.hid (Kd.R_alloc HO1.out _), Lib.hid (below_alloc HB1.out _)⟩ ?_
          clear x0 x1 x2 x3 x4 x5 x6 HO1 HB1
          rintro wA ⟨HZ, HO1, HB1⟩
          obtain ⟨y0, y1, y2, y3, y4, y5, y6⟩ := de_cells HZ.out
          go_wp2_with ((with_reducible refine gate_builtin (b := .append) (xs := #[.tmp 30, .tmp 40]) rfl ?_); at_builtin; refine Kd.R_append k126 (w0 := w) w.heap.size rfl (.tmp 30) (.tmp 40) 108 126 (.agg #[(.int .u8 0), (.int .i64 0), (.int .i64 0), (.int .i64 0), (.int .u8 0), (.int .u8 0), (.int .u8 0)]) 40 rfl Try.underlying108 info126 rfl (by decide) (by omega) u9 ((l1.take i).map oneD) (oneD d) (oneL d) (fun _ => True) (fun _ => False) rfl rfl (k126_mkM _ _ _ (oneD d)) (fun _ hk => hk.elim) (fun _ _ => trivial) HO1.out HB1.out (below_size HB1.out) hle ?_; intro v1 wB ho hb hg hat; have HO5 : Hid (Kd.R k126 126 wB w.heap.size (fun _ => True) v1 ((l1.take (i + 1)).map oneD)) := Lib.hid (by rw [HTk.out, List.map_append]; exact ho); have HB5 := Lib.hid hb; clear ho hb hg hat)
          go_roundg (l1.length - (i + 1))
          case rel => exact ⟨i + 1, by first | rfl | exact congrArg _ hiw | (simp [hiw]), by omega, by omega, HO5, HB5⟩
          all_goals omega
        · obtain rfl : i = l1.length := by omega
          have hid : decide ((l1.length : Int) < (l1.length : Int)) = false := decide_eq_false (by omega)
          have hO9 := HO1.out
          rw [List.take_length, HOnes.out] at hO9
          obtain ⟨A9, c9, e9⟩ := Kd.R_slice hO9
          subst e9
          have HOn := Lib.hid hO9
          have HBo := HB1
          clear hO9 HO1 HB1
          go_wp2_with (first | (go_at_call 44; refine (boscagelaw02_Rising.calls k _ _ l0 first _ ?_ HC0.out HL.out).mono ?_; (exact Kd.C_below HR0.out HBo.out); rintro e_ w3 ⟨vL, rfl, ho, hb⟩; obtain ⟨Al, cl, eL⟩ := Kd.R_slice ho; subst eL; have CL := Lib.hid (Kd.R_reads' ho).2; have HO3 := Lib.hid (Kd.R_below HOn.out hb); have HB3 := Lib.hid (below_step HBo.out hb); clear ho hb) | (go_at_call 88; refine (History.calls k Al cl first A9 c9 ones h0 _ CL.out.2 CL.out.1 (Kd.R_reads' HO3.out).2.2 (Kd.R_reads' HO3.out).2.1 HDo.out hno HH.out).mono ?_; rintro e_ w4 ⟨v4, rfl, hR, hb⟩; obtain ⟨A4, c4, e4⟩ := Kd.R_slice hR; subst e4; have HR4 := Lib.hid (Kd.R_lower hR (below_size HB3.out)); have HB4 := Lib.hid (below_step HB3.out hb); have CL4 := Lib.hid (And.intro CL.out.1 (Kd.C_below CL.out.2 hb)); clear hR hb) | (go_at_call 92; refine (Order.calls k Al cl first A4 c4 h0 true oso _ CL4.out.2 CL4.out.1 (Kd.R_reads' HR4.out).2.2 (Kd.R_reads' HR4.out).2.1 HO.out).mono ?_; rintro e_ w7 ⟨v7, rfl, hR, hb⟩; rw [HXs.out] at hR; obtain ⟨A7, c7, e7⟩ := Kd.R_slice hR; subst e7; have HR7 := Lib.hid (Kd.R_reads' hR).2; have HB7 := Lib.hid (below_step HB4.out hb); have CL7 := Lib.hid (And.intro CL4.out.1 (Kd.C_below CL4.out.2 hb)); have HH7 := Lib.hid (Kd.R_below HR4.out hb); clear hR hb))
          go_ret
          exact ⟨rfl, HB7.out⟩
end Go.Proofs.Ytkoiffkonjpoiaa.Q
