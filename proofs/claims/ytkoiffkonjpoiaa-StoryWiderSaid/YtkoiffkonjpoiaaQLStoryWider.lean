/- The walk of StoryWider, by hand: what the law does in memory, told by a plain function; under the contract's own conditions alone. -/
import Derived.Test.YtkoiffkonjpoiaaQM4
namespace Go.Proofs.Ytkoiffkonjpoiaa.Q
open Go.RowKit Go.Proofs.YtkoiffkonjpoiaaW.PrintWords Go.Proofs.YtkoiffkonjpoiaaW.PrintLast Go.Proofs.YtkoiffkonjpoiaaW.PrintMore Go.Proofs.YtkoiffkonjpoiaaX
attribute [local go_sem] max2_int min2_int max_two min_two max_three min_three max_four min_four
set_option linter.unusedVariables false
set_option linter.unusedSimpArgs false
/-- A cell of an event of one's own is written. -/
theorem ev_segn {W : World} {B g cap j n : Nat} {l : List S128} {e x' : S128} {A : Option Addr} {c : Nat} (HR : Kd.R k128 128 W B (fun _ => True) (.slice (some ⟨g, 0, none⟩) n cap) l) (hj : j < n) (hcc : ∀ i u, (evL e A c)[i]? = some u → W.cell? ⟨g, j * 13 + i, none⟩ = some u) (q : Nat) (hq : q < 13) (u : Value) {o : Nat} (ho : o = j * 13 + q)
    (hM : k128.M W B (fun b => True ∧ b ≠ g) x' ((evL e A c).take q ++ [u] ++ (evL e A c).drop (q + 1))) : Kd.R k128 128 (W.setCell ⟨g, o, none⟩ u) B (fun _ => True) (.slice (some ⟨g, 0, none⟩) n cap) (l.set j x') := by
  subst ho
  exact (Kd.R_seg HR (j : Int) (by omega) (by omega) (c := evL e A c) (seg := [u]) (j := q) (okp := fun b => True ∧ b ≠ g) rfl hcc (by show q + 1 ≤ 13; omega) hM (fun k hk => hk)).1
/-- An event of one's own: its cells. -/
theorem ev_own {W : World} {B g cap n j : Nat} {l : List S128} (HR : Kd.R k128 128 W B (fun _ => True) (.slice (some ⟨g, 0, none⟩) n cap) l) (hj : j < n) (e : S128) (he : l[j]? = some e) : ∃ A11 c11, k40.R 40 W B (fun b => True ∧ b ≠ g) (.slice A11 e.f4.f4.length c11) e.f4.f4 ∧ (∀ i u, (evL e A11 c11)[i]? = some u → W.cell? ⟨g, j * 13 + i, none⟩ = some u) ∧ ∀ i, W.frozen? ⟨g, j * 13 + i, none⟩ = false := by
  obtain ⟨c, hcl, hM, hcc, hfz⟩ := Kd.R_elem HR z128 (j : Int) (by omega) (by omega)
  rw [show l.getD (j : Int).toNat z128 = e by rw [Int.toNat_natCast, List.getD_eq_getElem?_getD, he]; rfl] at hM
  rw [Int.toNat_natCast] at hcc hfz
  obtain ⟨v11, rfl, hR⟩ := k128_openM hM
  obtain ⟨A11, c11, rfl⟩ := Kd.R_slice hR
  exact ⟨A11, c11, hR, hcc, hfz⟩
theorem bits_u8 (a : Nat) (ha : a < 256) : bits .and .u8 (a : Int) 1 = ((a % 2 : Nat) : Int) := by
  rw [show (1 : Int) = ((1 : Nat) : Int) from rfl, (bits_nat .u8 8 (by decide) (fun n h0 h1 => by simp [IntKind.wrap, IntKind.bits, IntKind.signed]; omega) a 1 ha (by decide)).1, Nat.and_one_is_mod]
theorem bit8 (D n : Nat) (hD : D < 256) : bits .and .u8 ((D : Int) / 2 ^ n) 1 = if D.testBit n = true then 1 else 0 := by
  have e : ((D : Int) / 2 ^ n) = ((D / 2 ^ n : Nat) : Int) := by rw [Int.natCast_ediv, Int.natCast_pow]; rfl
  rw [e, bits_u8 _ (Nat.lt_of_le_of_lt (Nat.div_le_self _ _) hD), Nat.testBit_eq_decide_div_mod_eq]
  by_cases h : D / 2 ^ n % 2 = 1
  · simp [h]
  · have : D / 2 ^ n % 2 = 0 := by omega
    simp [this]
theorem Linear.calls' (k : Nat) (A0 : Option Addr) (c0 : Nat) (l0 : List S40) (A1 : Option Addr) (c1 n : Nat) (l : List S128) (b : Bool) (w : World) (hr0 : Kd.C k40 w A0 l0.length l0) (hc0 : l0.length ≤ c0) (hr1 : Kd.C k128 w A1 l.length l) (hc1 : l.length ≤ c1) (hn : n = l.length) (h : Linear.f k l0 l = some b) :
    Calls Try.prog 94 #[.slice A0 l0.length c0, .slice A1 n c1] w fun e w' => e = .returned (.bool b) ∧ Below w.heap.size w w' := by
  subst hn
  exact Linear.calls k A0 c0 l0 A1 c1 l b w hr0 hc0 hr1 hc1 h
def wideAt (more : Nat) (h : List S128) (i m : Nat) : Option S128 := if m < i then (h[m]?).map (wideE more m) else h[m]?
theorem wideAt_succ (more : Nat) (h : List S128) (i m : Nat) (e : S128) (he : h[i]? = some e) : wideAt more h (i + 1) m = if m = i then some (wideE more i e) else wideAt more h i m := by
  unfold wideAt
  by_cases hm : m = i
  · subst hm
    rw [if_pos (by omega), if_pos rfl, he]
    rfl
  · rw [if_neg hm]
    by_cases h1 : m < i
    · rw [if_pos (by omega), if_pos h1]
    · rw [if_neg (by omega), if_neg h1]
theorem wideAt_all (more : Nat) (h cur : List S128) (hc : ∀ m, cur[m]? = wideAt more h h.length m) : cur = wideL more h := by
  refine List.ext_getElem? (fun m => ?_)
  rw [hc, wideAt]
  unfold wideL
  rw [List.getElem?_map]
  by_cases hm : m < h.length
  · rw [if_pos hm, List.getElem?_range hm, List.getElem?_eq_getElem hm]
    simp [rd_T128, hm]
  · rw [if_neg hm, List.getElem?_eq_none (by omega), List.getElem?_eq_none (by simpa using hm)]
    rfl
set_option maxHeartbeats 8000000 in
set_option maxRecDepth 100000 in
theorem boscagelaw22_StoryWider.calls (k : Nat) (A0 : Option Addr) (c0 : Nat) (l0 : List Int) (A1 : Option Addr) (c1 : Nat) (l1 : List S126) (A2 : Option Addr) (c2 : Nat) (l2 : List Int) (a3 : Int) (a4 : Int) (a5 : Int) (r : Bool) (w : World) (hr0 : Kd.C (Kd.int .i64) w A0 l0.length l0) (hc0 : l0.length ≤ c0) (hr1 : Kd.C k126 w A1 l1.length l1) (hc1 : l1.length ≤ c1) (hr2 : Kd.C (Kd.int .u8) w A2 l2.length l2) (hc2 : l2.length ≤ c2) (h : boscagelaw22_StoryWider.f k l0 l1 l2 a3 a4 a5 = some r) :
    Calls Try.prog 35 #[.slice A0 l0.length c0, .slice A1 l1.length c1, .slice A2 l2.length c2, .int .u8 a3, .int .u8 a4, .int .u8 a5] w fun e w' => e = .returned (.bool r) ∧ Below w.heap.size w w' := by
  have hu128 := Try.underlying128
  have hu84 := Try.underlying84
  have hu78 := Try.underlying78
  have HR0 := Lib.hid hr0
  have HC0 := Lib.hid hc0
  have hl0 := hr0.2.1
  have HR1 := Lib.hid hr1
  have HC1 := Lib.hid hc1
  have hl1 := hr1.2.1
  have HR2 := Lib.hid hr2
  have HC2 := Lib.hid hc2
  have hl2 := hr2.2.1
  clear hr0 hc0 hr1 hc1 hr2 hc2
  unfold boscagelaw22_StoryWider.f at h
  by_cases hg : okDs l1 ∧ okBs l2 ∧ okB a3 ∧ okB a4 ∧ okB a5
  case neg => rw [if_neg hg] at h; cases h
  rw [if_pos hg] at h
  obtain ⟨hD, hBs, hwh, hwt, hwm⟩ := hg
  have HD := Lib.hid hD
  have HBs := Lib.hid hBs
  have HWh := Lib.hid hwh
  have HWt := Lib.hid hwt
  have HWm := Lib.hid hwm
  clear hD hBs hwh hwt hwm
  by_cases hbig : 8 < l0.length ∨ 6 < l1.length
  case pos =>
    rw [if_pos hbig] at h
    obtain rfl := Option.some.inj h
    clear h
    obtain ⟨fb, hfb⟩ : ∃ fb, (decide ((l0.length : Int) ≤ 8) && decide ((l1.length : Int) ≤ 6)) = fb := ⟨_, rfl⟩
    have HFew := Lib.hid hfb
    cases fb with
    | false =>
      clear hbig hfb
      go_enter Try.func35, Try.ntmps35
      go_wp2_with (first | (go_at_call 84; refine (Awake22.calls _).mono ?_; rintro e_ w1 ⟨rfl, hb⟩; have HB1 := Lib.hid hb; clear hb) | (go_at_call 85; refine (few22.calls A0 c0 l0 A1 c1 l1 6 _ _ HFew.out).mono ?_; rintro e_ w2 ⟨rfl, hb⟩; have HB2 := Lib.hid (below_step HB1.out hb); clear hb))
      go_ret
      exact ⟨rfl, HB2.out⟩
    | true =>
      rw [Bool.and_eq_true, decide_eq_true_iff, decide_eq_true_iff] at hfb
      omega
  rw [if_neg hbig] at h
  have HFew : Hid ((decide ((l0.length : Int) ≤ 8) && decide ((l1.length : Int) ≤ 6)) = true) := Lib.hid (by rw [decide_eq_true (by omega), decide_eq_true (by omega)]; rfl)
  have hn1 : l1.length ≤ 1000 := by omega
  clear hbig
  obtain ⟨⟨first', h2⟩, ht, h⟩ := Option.bind_eq_some_iff.1 h
  unfold told at ht
  obtain ⟨first, hL, ht⟩ := Option.bind_eq_some_iff.1 ht
  obtain ⟨h0, hH, ht⟩ := Option.bind_eq_some_iff.1 ht
  obtain ⟨e1, e2⟩ := Prod.mk.inj (Option.some.inj ht)
  subst e1
  obtain ⟨h1, hh1⟩ : ∃ h1, Turned.f h0 l2 = h1 := ⟨_, rfl⟩
  rw [hh1] at e2
  have hq0 : h0.length = l1.length := histGo_length k l1 0 _ _ hH
  have hq1 : h1.length = h0.length := by rw [← hh1, Turned.length]
  have hq2 : h2.length = h1.length := by rw [← e2, Spoilt.length]
  have hn0 : h0.length ≤ 1000 := by omega
  have hn1' : h1.length ≤ 1000 := by omega
  have hn2 : h2.length ≤ 1000 := by omega
  have HT1 := Lib.hid hh1
  have HS2 := Lib.hid e2
  have HL := Lib.hid hL
  have HH : Hid (History.f k first l1 = some h0) := Lib.hid hH
  clear ht hH hL e2 hh1 hq0 hq1 hq2
  dsimp only at h
  obtain ⟨lb, hLb, h⟩ := Option.bind_eq_some_iff.1 h
  have HLb := Lib.hid hLb
  clear hLb
  cases lb with
  | false =>
    rw [if_neg (by simp)] at h
    obtain rfl := Option.some.inj h
    clear h
    go_enter Try.func35, Try.ntmps35
    go_wp2_with (first | (go_at_call 84; refine (Awake22.calls _).mono ?_; rintro e_ w1 ⟨rfl, hb⟩; have HB1 := Lib.hid hb; clear hb) | (go_at_call 85; refine (few22.calls A0 c0 l0 A1 c1 l1 6 _ _ HFew.out).mono ?_; rintro e_ w2 ⟨rfl, hb⟩; have HB2 := Lib.hid (below_step HB1.out hb); clear hb) | (go_at_call 44; refine (boscagelaw02_Rising.calls k _ _ l0 first _ ?_ HC0.out HL.out).mono ?_; (exact Kd.C_below HR0.out HB2.out); rintro e_ w3 ⟨vL, rfl, ho, hb⟩; obtain ⟨Al, cl, eL⟩ := Kd.R_slice ho; subst eL; have CL := Lib.hid (Kd.R_reads' ho).2; have HB3 := Lib.hid (below_step HB2.out hb); clear ho hb) | (go_at_call 88; refine (History.calls k Al cl first A1 c1 l1 h0 _ CL.out.2 CL.out.1 (Kd.C_below HR1.out HB3.out) HC1.out HD.out hn1 HH.out).mono ?_; rintro e_ w4 ⟨v4, rfl, hR, hb⟩; obtain ⟨A4, c4, e4⟩ := Kd.R_slice hR; subst e4; have HR4 := Lib.hid (Kd.R_lower hR (below_size HB3.out)); have HB4 := Lib.hid (below_step HB3.out hb); have CL4 := Lib.hid (And.intro CL.out.1 (Kd.C_below CL.out.2 hb)); clear hR hb) | (go_at_call 87; refine (Turned.calls A4 c4 h0 A2 c2 l2 w.heap.size _ HR4.out (below_size HB4.out) (Kd.C_below HR2.out HB4.out) HC2.out HBs.out hn0).mono ?_; rintro e_ w5 ⟨v5, rfl, hR, hb⟩; rw [HT1.out] at hR; obtain ⟨A5_, c5_, e5⟩ := Kd.R_slice hR; subst e5; have HR5_ := Lib.hid hR; have HB5 := Lib.hid (below_step HB4.out hb); have CL5 := Lib.hid (And.intro CL4.out.1 (Kd.C_below CL4.out.2 hb)); clear hR hb) | (go_at_call 86; refine (Spoilt.calls A5_ c5_ h1 a3 a4 w.heap.size _ HR5_.out (below_size HB5.out) HWh.out HWt.out hn1').mono ?_; rintro e_ w6 ⟨v6, rfl, hR, hb⟩; rw [HS2.out] at hR; obtain ⟨A6, c6, e6⟩ := Kd.R_slice hR; subst e6; have HR6 := Lib.hid hR; have HB6 := Lib.hid (below_step HB5.out hb); have CL6 := Lib.hid (And.intro CL5.out.1 (Kd.C_below CL5.out.2 hb)); clear hR hb) | (go_at_call 94; refine (Linear.calls k Al cl first A6 c6 h2 false _ CL6.out.2 CL6.out.1 (Kd.R_reads' HR6.out).2.2 (Kd.R_reads' HR6.out).2.1 HLb.out).mono ?_; rintro e_ w7 ⟨rfl, hb⟩; have HB7 := Lib.hid (below_step HB6.out hb); clear hb))
    go_ret
    exact ⟨rfl, HB7.out⟩
  | true =>
    rw [if_pos rfl] at h
    have HLast := Lib.hid h
    clear h
    obtain ⟨M, rfl⟩ := Int.eq_ofNat_of_zero_le HWm.out.1
    go_enter Try.func35, Try.ntmps35
    go_upto_block 0 with (first | (go_at_call 84; refine (Awake22.calls _).mono ?_; rintro e_ w1 ⟨rfl, hb⟩; have HB1 := Lib.hid hb; clear hb) | (go_at_call 85; refine (few22.calls A0 c0 l0 A1 c1 l1 6 _ _ HFew.out).mono ?_; rintro e_ w2 ⟨rfl, hb⟩; have HB2 := Lib.hid (below_step HB1.out hb); clear hb) | (go_at_call 44; refine (boscagelaw02_Rising.calls k _ _ l0 first _ ?_ HC0.out HL.out).mono ?_; (exact Kd.C_below HR0.out HB2.out); rintro e_ w3 ⟨vL, rfl, ho, hb⟩; obtain ⟨Al, cl, eL⟩ := Kd.R_slice ho; subst eL; have CL := Lib.hid (Kd.R_reads' ho).2; have HB3 := Lib.hid (below_step HB2.out hb); have HF3 := Lib.hid (Kd.R_lower (Kd.R_mono (ok' := fun _ => True) ho (fun _ _ => trivial)) (below_size HB2.out)); clear ho hb) | (go_at_call 88; refine (History.calls k Al cl first A1 c1 l1 h0 _ CL.out.2 CL.out.1 (Kd.C_below HR1.out HB3.out) HC1.out HD.out hn1 HH.out).mono ?_; rintro e_ w4 ⟨v4, rfl, hR, hb⟩; obtain ⟨A4, c4, e4⟩ := Kd.R_slice hR; subst e4; have HR4 := Lib.hid (Kd.R_lower hR (below_size HB3.out)); have HB4 := Lib.hid (below_step HB3.out hb); have CL4 := Lib.hid (And.intro CL.out.1 (Kd.C_below CL.out.2 hb)); have HF4 := Lib.hid (Kd.R_below HF3.out hb); clear hR hb) | (go_at_call 87; refine (Turned.calls A4 c4 h0 A2 c2 l2 w.heap.size _ HR4.out (below_size HB4.out) (Kd.C_below HR2.out HB4.out) HC2.out HBs.out hn0).mono ?_; rintro e_ w5 ⟨v5, rfl, hR, hb⟩; rw [HT1.out] at hR; obtain ⟨A5_, c5_, e5⟩ := Kd.R_slice hR; subst e5; have HR5_ := Lib.hid hR; have HB5 := Lib.hid (below_step HB4.out hb); have CL5 := Lib.hid (And.intro CL4.out.1 (Kd.C_below CL4.out.2 hb)); have HF5 := Lib.hid (Kd.R_below HF4.out hb); clear hR hb) | (go_at_call 86; refine (Spoilt.calls A5_ c5_ h1 a3 a4 w.heap.size _ HR5_.out (below_size HB5.out) HWh.out HWt.out hn1').mono ?_; rintro e_ w6 ⟨v6, rfl, hR, hb⟩; rw [HS2.out] at hR; obtain ⟨A6, c6, e6⟩ := Kd.R_slice hR; subst e6; have HR6 := Lib.hid hR; have HB6 := Lib.hid (below_step HB5.out hb); have CL6 := Lib.hid (And.intro CL5.out.1 (Kd.C_below CL5.out.2 hb)); have HF6 := Lib.hid (Kd.R_below HF5.out hb); clear hR hb) | (go_at_call 94; refine (Linear.calls k Al cl first A6 c6 h2 true _ CL6.out.2 CL6.out.1 (Kd.R_reads' HR6.out).2.2 (Kd.R_reads' HR6.out).2.1 HLb.out).mono ?_; rintro e_ w7 ⟨rfl, hb⟩; have HB7 := Lib.hid (below_step HB6.out hb); have HR7 := Lib.hid (Kd.R_below HR6.out hb); have HF7 := Lib.hid (Kd.R_below HF6.out hb); clear hb))
    go_wp2_with fail
    go_loopg [38] h2.length (fun gk v38 W => ∃ (i : Nat) (cur : List S128), v38 = .int .i64 (i : Int) ∧ i ≤ h2.length ∧ h2.length - i ≤ gk ∧ Hid (∀ m, cur[m]? = wideAt M h2 i m) ∧ Hid (Kd.R k128 128 W w.heap.size (fun _ => True) (.slice A6 h2.length c6) cur) ∧ Hid (Kd.R k40 40 W w.heap.size (fun _ => True) (.slice Al first.length cl) first) ∧ Hid (Below w.heap.size w W))
    case atStart => exact ⟨0, h2, rfl, by omega, by omega, Lib.hid (fun m => by unfold wideAt; rw [if_neg (by omega)]), HR7, HF7, HB7⟩
    case round =>
      clear HR7 HF7 HB7
      obtain ⟨i, cur, rfl, hi1, hgk, HC, HR, HF, HB⟩ := hrel
      by_cases hi : i < h2.length
      · obtain ⟨e, he⟩ : ∃ e, h2[i]? = some e := ⟨_, List.getElem?_eq_getElem hi⟩
        have hce : cur[i]? = some e := by rw [HC.out, wideAt, if_neg (by omega), he]
        obtain ⟨g, cap, heq, hbg, hgl, hcl⟩ := Kd.R_form HR.out (by have := (Kd.R_reads' HR.out).1; omega)
        injection heq with hA hn hc
        subst hA
        subst hc
        have HNn := Lib.hid hn
        have HCl := Lib.hid hcl
        have hil : i < cur.length := by omega
        have HIl := Lib.hid hil
        clear hn hcl hil
        obtain ⟨A11, c11, hR40, hcc, hfz⟩ := ev_own HR.out hi e hce
        have x5 := hcc 5 _ rfl
        have x6 := hcc 6 _ rfl
        have f5 := hfz 5
        have f6 := hfz 6
        have hid : decide ((i : Int) < (h2.length : Int)) = true := decide_eq_true (by omega)
        have hiw : IntKind.i64.wrap ((i : Int) + 1) = (i : Int) + 1 := by rw [IntKind.wrap_i64]; omega
        have hm8 : (i : Int).tmod 8 = ((i % 8 : Nat) : Int) := by
          show (i : Int).tmod ((8 : Nat) : Int) = _
          rw [← Int.ofNat_tmod]
        have hix : decide (i < h2.length) = true := decide_eq_true hi
        have hM := HWm.out.2
        have hbit := bit8 M (i % 8) (by omega)
        have HCc := Lib.hid hcc
        have HR40 := Lib.hid hR40
        have HHe := Lib.hid (And.intro he hce)
        have hbg' := hbg
        clear hM hcc hfz hR40 he hce hgl
        cases htb : M.testBit (i % 8) with
        | false =>
          rw [htb, if_neg (by simp)] at hbit
          have hE : wideE M i e = e := by unfold wideE; rw [htb, if_neg (by simp)]
          have HC2 : Hid (∀ m, cur[m]? = wideAt M h2 (i + 1) m) := Lib.hid (fun m => by
            rw [wideAt_succ M h2 i m e HHe.out.1, hE]
            by_cases hm : m = i
            · subst hm; rw [if_pos rfl]; exact HHe.out.2
            · rw [if_neg hm]; exact HC.out m)
          clear hE htb
          go_wp2_with fail
          go_roundg (h2.length - (i + 1))
          case rel => exact ⟨i + 1, cur, by first | rfl | exact congrArg _ hiw | (simp [hiw]), by omega, by omega, HC2, HR, HF, HB⟩
          all_goals omega
        | true =>
          rw [htb, if_pos rfl] at hbit
          have hE : wideE M i e = ⟨e.f0, e.f1, wrap64 (e.f2 - 15), if 0 ≤ e.f3 then wrap64 (e.f3 + 15) else e.f3, e.f4⟩ := by unfold wideE; rw [htb, if_pos rfl]
          have HEe := Lib.hid hE
          clear hE htb
          go_upto_region 14 with (fail)
          refine find.settle (p := fun W => Code.wp _ _ _ _ W) (R := fun W => Hid (Kd.R k128 128 W w.heap.size (fun _ => True) (.slice (some ⟨g, 0, none⟩) h2.length c6) (cur.set i ⟨e.f0, e.f1, wrap64 (e.f2 - 15), e.f3, e.f4⟩)) ∧ Hid (Kd.R k40 40 W w.heap.size (fun _ => True) (.slice Al first.length cl) first) ∧ Hid (Below w.heap.size w W)) ?_ ?_
          · obtain ⟨cells, hcl⟩ := HCl.out
            exact ⟨Lib.hid (ev_segn HR.out hi HCc.out 5 (by decide) _ rfl (k128_mkM _ _ _ ⟨e.f0, e.f1, wrap64 (e.f2 - 15), e.f3, e.f4⟩ HR40.out)), Lib.hid (Kd.R_set HF.out hcl (by decide) _ _), Lib.hid (below_set HB.out hbg')⟩
          clear x5 x6 f5 f6 HR HF HB HCc HR40 HCl
          rintro w8 ⟨HR, HF, HB⟩
          have hx1 : (cur.set i ⟨e.f0, e.f1, wrap64 (e.f2 - 15), e.f3, e.f4⟩)[i]? = some ⟨e.f0, e.f1, wrap64 (e.f2 - 15), e.f3, e.f4⟩ := by rw [List.getElem?_set, if_pos rfl, if_pos HIl.out]
          obtain ⟨A12, c12, hR40, hcc, hfz⟩ := ev_own HR.out hi _ hx1
          have x6 : w8.cell? ⟨g, i * 13 + 6, none⟩ = some (.int .i64 e.f3) := hcc 6 _ rfl
          have f6 := hfz 6
          obtain ⟨cells, hcl⟩ := (Kd.R_typed HR.out) g (by simp [Value.ownBlock])
          have HCl := Lib.hid hcl
          have HCc := Lib.hid hcc
          have HR40 := Lib.hid hR40
          have HX1 := Lib.hid hx1
          clear hx1 hR40 hcc hfz hcl
          by_cases h0 : 0 ≤ e.f3
          · have h0d : decide (0 ≤ e.f3) = true := decide_eq_true h0
            have hE2 : wideE M i e = ⟨e.f0, e.f1, wrap64 (e.f2 - 15), wrap64 (e.f3 + 15), e.f4⟩ := by rw [HEe.out, if_pos h0]
            have HE2 := Lib.hid hE2
            clear h0 hE2
            go_upto_region 16 with (fail)
            have HR9 := Lib.hid (ev_segn HR.out hi HCc.out 6 (by decide) (.int .i64 (wrap64 (e.f3 + 15))) rfl (k128_mkM _ _ _ ⟨e.f0, e.f1, wrap64 (e.f2 - 15), wrap64 (e.f3 + 15), e.f4⟩ HR40.out))
            have HF9 := Lib.hid (Kd.R_set HF.out HCl.out (by decide) (i * 13 + 6) (.int .i64 (wrap64 (e.f3 + 15))))
            have HB9 : Hid (Below w.heap.size w (w8.setCell ⟨g, i * 13 + 6, none⟩ (.int .i64 (wrap64 (e.f3 + 15))))) := Lib.hid (below_set HB.out hbg')
            have HC2 : Hid (∀ m, ((cur.set i ⟨e.f0, e.f1, wrap64 (e.f2 - 15), e.f3, e.f4⟩).set i ⟨e.f0, e.f1, wrap64 (e.f2 - 15), wrap64 (e.f3 + 15), e.f4⟩)[m]? = wideAt M h2 (i + 1) m) := Lib.hid (fun m => by
              rw [wideAt_succ M h2 i m e HHe.out.1, HE2.out, List.set_set, List.getElem?_set]
              by_cases hm : m = i
              · subst hm; rw [if_pos rfl, if_pos rfl, if_pos HIl.out]
              · rw [if_neg (Ne.symm hm), if_neg hm]; exact HC.out m)
            go_wp2_with fail
            go_roundg (h2.length - (i + 1))
            case rel => exact ⟨i + 1, _, by first | rfl | exact congrArg _ hiw | (simp [hiw]), by omega, by omega, HC2, HR9, HF9, HB9⟩
            all_goals omega
          · have h0d : decide (0 ≤ e.f3) = false := decide_eq_false h0
            have hE2 : wideE M i e = ⟨e.f0, e.f1, wrap64 (e.f2 - 15), e.f3, e.f4⟩ := by rw [HEe.out, if_neg h0]
            have HE2 := Lib.hid hE2
            clear h0 hE2
            have HC2 : Hid (∀ m, (cur.set i ⟨e.f0, e.f1, wrap64 (e.f2 - 15), e.f3, e.f4⟩)[m]? = wideAt M h2 (i + 1) m) := Lib.hid (fun m => by
              rw [wideAt_succ M h2 i m e HHe.out.1, HE2.out, List.getElem?_set]
              by_cases hm : m = i
              · subst hm; rw [if_pos rfl, if_pos rfl, if_pos HIl.out]
              · rw [if_neg (Ne.symm hm), if_neg hm]; exact HC.out m)
            go_wp2_with fail
            go_roundg (h2.length - (i + 1))
            case rel => exact ⟨i + 1, _, by first | rfl | exact congrArg _ hiw | (simp [hiw]), by omega, by omega, HC2, HR, HF, HB⟩
            all_goals omega
      · obtain rfl : i = h2.length := by omega
        have hid : decide ((h2.length : Int) < (h2.length : Int)) = false := decide_eq_false (by omega)
        have hcw : cur = wideL M h2 := wideAt_all M h2 cur HC.out
        have hlen : h2.length = cur.length := (Kd.R_reads' HR.out).1
        have HLe := Lib.hid hlen
        have HLa : Hid (Linear.f k first cur = some r) := Lib.hid (by rw [hcw]; have := HLast.out; rwa [Int.toNat_natCast] at this)
        have HRr := Lib.hid (Kd.R_reads' HR.out).2
        have HFr := Lib.hid (Kd.R_reads' HF.out).2
        clear hcw hlen
        go_wp2_with (go_at_call 94; refine (Linear.calls' k Al cl first A6 c6 h2.length cur r _ HFr.out.2 HFr.out.1 HRr.out.2 (by rw [← HLe.out]; exact HRr.out.1) HLe.out HLa.out).mono ?_; rintro e_ w9 ⟨rfl, hb⟩; have HB9 := Lib.hid (below_step HB.out hb); clear hb)
        go_ret
        exact ⟨rfl, HB9.out⟩
end Go.Proofs.Ytkoiffkonjpoiaa.Q
