/- The walk of StoryLegal, by hand: what the law does in memory, told by a plain function; under the contract's own conditions alone. -/
import Derived.Test.YtkoiffkonjpoiaaQM6
namespace Go.Proofs.Ytkoiffkonjpoiaa.Q
open Go.RowKit Go.Proofs.YtkoiffkonjpoiaaW.PrintWords Go.Proofs.YtkoiffkonjpoiaaW.PrintLast Go.Proofs.YtkoiffkonjpoiaaW.PrintMore Go.Proofs.YtkoiffkonjpoiaaX
attribute [local go_sem] max2_int min2_int max_two min_two max_three min_three max_four min_four
set_option linter.unusedVariables false
set_option linter.unusedSimpArgs false
set_option maxHeartbeats 8000000 in
set_option maxRecDepth 100000 in
theorem boscagelaw22_StoryLegal.calls (k : Nat) (A0 : Option Addr) (c0 : Nat) (l0 : List Int) (A1 : Option Addr) (c1 : Nat) (l1 : List S126) (A2 : Option Addr) (c2 : Nat) (l2 : List Int) (a3 : Int) (a4 : Int) (A5 : Option Addr) (c5 : Nat) (l5 : List Int) (r : Bool) (w : World) (hr0 : Kd.C (Kd.int .i64) w A0 l0.length l0) (hc0 : l0.length ≤ c0) (hr1 : Kd.C k126 w A1 l1.length l1) (hc1 : l1.length ≤ c1) (hr2 : Kd.C (Kd.int .u8) w A2 l2.length l2) (hc2 : l2.length ≤ c2) (hr5 : Kd.C (Kd.int .i64) w A5 l5.length l5) (hc5 : l5.length ≤ c5) (h : boscagelaw22_StoryLegal.f k l0 l1 l2 a3 a4 l5 = some r) :
    Calls Try.prog 31 #[.slice A0 l0.length c0, .slice A1 l1.length c1, .slice A2 l2.length c2, .int .u8 a3, .int .u8 a4, .slice A5 l5.length c5] w fun e w' => e = .returned (.bool r) ∧ Below w.heap.size w w' := by
  have hu128 := Try.underlying128
  have hu84 := Try.underlying84
  have hu78 := Try.underlying78
  have HR0 := Lib.hid hr0
  have HC0 := Lib.hid hc0
  have hl0 := hr0.2.1
  have HR1 := Lib.hid hr1
  have HC1 := Lib.hid hc1
  have hl1 := hr1.2.1
  have HR2 := Lib.hid hr2
  have HC2 := Lib.hid hc2
  have hl2 := hr2.2.1
  have HR5 := Lib.hid hr5
  have HC5 := Lib.hid hc5
  have hl5 := hr5.2.1
  clear hr0 hc0 hr1 hc1 hr2 hc2 hr5 hc5
  unfold boscagelaw22_StoryLegal.f at h
  by_cases hg : okDs l1 ∧ okBs l2 ∧ okB a3 ∧ okB a4
  case neg => rw [if_neg hg] at h; cases h
  rw [if_pos hg] at h
  obtain ⟨hD, hBs, hwh, hwt⟩ := hg
  have HD := Lib.hid hD
  have HBs := Lib.hid hBs
  have HWh := Lib.hid hwh
  have HWt := Lib.hid hwt
  clear hD hBs hwh hwt
  by_cases hbig : 8 < l0.length ∨ 8 < l1.length ∨ 12 < l5.length
  case pos =>
    rw [if_pos hbig] at h
    obtain rfl := Option.some.inj h
    clear h
    obtain ⟨fb, hfb⟩ : ∃ fb, (decide ((l0.length : Int) ≤ 8) && decide ((l1.length : Int) ≤ 8)) = fb := ⟨_, rfl⟩
    have HFew := Lib.hid hfb
    cases fb with
    | false =>
      clear hbig hfb
      go_enter Try.func31, Try.ntmps31
      go_wp2_with (first | (go_at_call 84; refine (Awake22.calls _).mono ?_; rintro e_ w1 ⟨rfl, hb⟩; have HB1 := Lib.hid hb; clear hb) | (go_at_call 85; refine (few22.calls A0 c0 l0 A1 c1 l1 8 _ _ HFew.out).mono ?_; rintro e_ w2 ⟨rfl, hb⟩; have HB2 := Lib.hid (below_step HB1.out hb); clear hb))
      go_ret
      exact ⟨rfl, HB2.out⟩
    | true =>
      rw [Bool.and_eq_true, decide_eq_true_iff, decide_eq_true_iff] at hfb
      have hx1 : decide (12 < (l5.length : Int)) = true := decide_eq_true (by omega)
      clear hbig hfb
      go_enter Try.func31, Try.ntmps31
      go_wp2_with (first | (go_at_call 84; refine (Awake22.calls _).mono ?_; rintro e_ w1 ⟨rfl, hb⟩; have HB1 := Lib.hid hb; clear hb) | (go_at_call 85; refine (few22.calls A0 c0 l0 A1 c1 l1 8 _ _ HFew.out).mono ?_; rintro e_ w2 ⟨rfl, hb⟩; have HB2 := Lib.hid (below_step HB1.out hb); clear hb))
      go_ret
      exact ⟨rfl, HB2.out⟩
  rw [if_neg hbig] at h
  have HFew : Hid ((decide ((l0.length : Int) ≤ 8) && decide ((l1.length : Int) ≤ 8)) = true) := Lib.hid (by rw [decide_eq_true (by omega), decide_eq_true (by omega)]; rfl)
  have hn1 : l1.length ≤ 1000 := by omega
  have hx1 : decide (12 < (l5.length : Int)) = false := decide_eq_false (by omega)
  clear hbig
  obtain ⟨⟨first', h2⟩, ht, h⟩ := Option.bind_eq_some_iff.1 h
  unfold told at ht
  obtain ⟨first, hL, ht⟩ := Option.bind_eq_some_iff.1 ht
  obtain ⟨h0, hH, ht⟩ := Option.bind_eq_some_iff.1 ht
  obtain ⟨e1, e2⟩ := Prod.mk.inj (Option.some.inj ht)
  subst e1
  obtain ⟨h1, hh1⟩ : ∃ h1, Turned.f h0 l2 = h1 := ⟨_, rfl⟩
  rw [hh1] at e2
  have hq0 : h0.length = l1.length := histGo_length k l1 0 _ _ hH
  have hq1 : h1.length = h0.length := by rw [← hh1, Turned.length]
  have hq2 : h2.length = h1.length := by rw [← e2, Spoilt.length]
  have hn0 : h0.length ≤ 1000 := by omega
  have hn1' : h1.length ≤ 1000 := by omega
  have hn2 : h2.length ≤ 1000 := by omega
  have HT1 := Lib.hid hh1
  have HS2 := Lib.hid e2
  have HL := Lib.hid hL
  have HH : Hid (History.f k first l1 = some h0) := Lib.hid hH
  clear ht hH hL e2 hh1 hq0 hq1 hq2
  dsimp only at h
  obtain ⟨a, hA, h⟩ := Option.bind_eq_some_iff.1 h
  obtain ⟨b, hBf, h⟩ := Option.bind_eq_some_iff.1 h
  obtain ⟨wb, hwb⟩ : ∃ wb, Whole.f h2 l5 = wb := ⟨_, rfl⟩
  rw [hwb] at h
  obtain rfl := Option.some.inj h
  have HA := Lib.hid hA
  have HBf := Lib.hid hBf
  have HWw := Lib.hid hwb
  clear h hA hBf hwb
  go_enter Try.func31, Try.ntmps31
  go_upto_region 7 with (first | (go_at_call 84; refine (Awake22.calls _).mono ?_; rintro e_ w1 ⟨rfl, hb⟩; have HB1 := Lib.hid hb; clear hb) | (go_at_call 85; refine (few22.calls A0 c0 l0 A1 c1 l1 8 _ _ HFew.out).mono ?_; rintro e_ w2 ⟨rfl, hb⟩; have HB2 := Lib.hid (below_step HB1.out hb); clear hb) | (go_at_call 44; refine (boscagelaw02_Rising.calls k _ _ l0 first _ ?_ HC0.out HL.out).mono ?_; (exact Kd.C_below HR0.out HB2.out); rintro e_ w3 ⟨vL, rfl, ho, hb⟩; obtain ⟨Al, cl, eL⟩ := Kd.R_slice ho; subst eL; have CL := Lib.hid (Kd.R_reads' ho).2; have HB3 := Lib.hid (below_step HB2.out hb); clear ho hb) | (go_at_call 88; refine (History.calls k Al cl first A1 c1 l1 h0 _ CL.out.2 CL.out.1 (Kd.C_below HR1.out HB3.out) HC1.out HD.out hn1 HH.out).mono ?_; rintro e_ w4 ⟨v4, rfl, hR, hb⟩; obtain ⟨A4, c4, e4⟩ := Kd.R_slice hR; subst e4; have HR4 := Lib.hid (Kd.R_lower hR (below_size HB3.out)); have HB4 := Lib.hid (below_step HB3.out hb); have CL4 := Lib.hid (And.intro CL.out.1 (Kd.C_below CL.out.2 hb)); clear hR hb) | (go_at_call 87; refine (Turned.calls A4 c4 h0 A2 c2 l2 w.heap.size _ HR4.out (below_size HB4.out) (Kd.C_below HR2.out HB4.out) HC2.out HBs.out hn0).mono ?_; rintro e_ w5 ⟨v5, rfl, hR, hb⟩; rw [HT1.out] at hR; obtain ⟨A5_, c5_, e5⟩ := Kd.R_slice hR; subst e5; have HR5_ := Lib.hid hR; have HB5 := Lib.hid (below_step HB4.out hb); have CL5 := Lib.hid (And.intro CL4.out.1 (Kd.C_below CL4.out.2 hb)); clear hR hb) | (go_at_call 86; refine (Spoilt.calls A5_ c5_ h1 a3 a4 w.heap.size _ HR5_.out (below_size HB5.out) HWh.out HWt.out hn1').mono ?_; rintro e_ w6 ⟨v6, rfl, hR, hb⟩; rw [HS2.out] at hR; obtain ⟨A6, c6, e6⟩ := Kd.R_slice hR; subst e6; have HR6 := Lib.hid hR; have HB6 := Lib.hid (below_step HB5.out hb); have CL6 := Lib.hid (And.intro CL5.out.1 (Kd.C_below CL5.out.2 hb)); clear hR hb))
  cases b with
  | false =>
    go_wp2_with (first | (go_at_call 89; refine (Legal.calls k Al cl first A6 c6 h2 A5 c5 l5 a _ CL6.out.2 CL6.out.1 (Kd.R_reads' HR6.out).2.2 (Kd.R_reads' HR6.out).2.1 (Kd.C_below HR5.out HB6.out) HC5.out HA.out).mono ?_; rintro e_ w7 ⟨rfl, hb⟩; have HB7 := Lib.hid (below_step HB6.out hb); have CL7 := Lib.hid (And.intro CL6.out.1 (Kd.C_below CL6.out.2 hb)); have CH7 := Lib.hid (And.intro (Kd.R_reads' HR6.out).2.1 (Kd.C_below (Kd.R_reads' HR6.out).2.2 hb)); clear hb) | (go_at_call 90; refine (Fits.calls k Al cl first A6 c6 h2 A5 c5 l5 false _ CL7.out.2 CL7.out.1 CH7.out.2 CH7.out.1 (Kd.C_below HR5.out HB7.out) HC5.out HBf.out).mono ?_; rintro e_ w8 ⟨rfl, hb⟩; have HB8 := Lib.hid (below_step HB7.out hb); have CH8 := Lib.hid (And.intro CH7.out.1 (Kd.C_below CH7.out.2 hb)); clear hb))
    go_ret
    exact ⟨by first | rfl | simp, HB8.out⟩
  | true =>
    go_wp2_with (first | (go_at_call 89; refine (Legal.calls k Al cl first A6 c6 h2 A5 c5 l5 a _ CL6.out.2 CL6.out.1 (Kd.R_reads' HR6.out).2.2 (Kd.R_reads' HR6.out).2.1 (Kd.C_below HR5.out HB6.out) HC5.out HA.out).mono ?_; rintro e_ w7 ⟨rfl, hb⟩; have HB7 := Lib.hid (below_step HB6.out hb); have CL7 := Lib.hid (And.intro CL6.out.1 (Kd.C_below CL6.out.2 hb)); have CH7 := Lib.hid (And.intro (Kd.R_reads' HR6.out).2.1 (Kd.C_below (Kd.R_reads' HR6.out).2.2 hb)); clear hb) | (go_at_call 90; refine (Fits.calls k Al cl first A6 c6 h2 A5 c5 l5 true _ CL7.out.2 CL7.out.1 CH7.out.2 CH7.out.1 (Kd.C_below HR5.out HB7.out) HC5.out HBf.out).mono ?_; rintro e_ w8 ⟨rfl, hb⟩; have HB8 := Lib.hid (below_step HB7.out hb); have CH8 := Lib.hid (And.intro CH7.out.1 (Kd.C_below CH7.out.2 hb)); clear hb) | (go_at_call 91; refine (Whole.calls A6 c6 h2 A5 c5 l5 _ CH8.out.2 CH8.out.1 (Kd.C_below HR5.out HB8.out) HC5.out).mono ?_; rintro e_ w9 ⟨rfl, hb⟩; rw [HWw.out]; have HB9 := Lib.hid (below_step HB8.out hb); clear hb))
    go_ret
    exact ⟨by first | rfl | simp, HB9.out⟩
end Go.Proofs.Ytkoiffkonjpoiaa.Q
