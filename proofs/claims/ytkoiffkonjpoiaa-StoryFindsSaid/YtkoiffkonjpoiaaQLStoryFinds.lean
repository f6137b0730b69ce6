/- The walk of StoryFinds, by hand: what the law does in memory, told by a plain function; under the contract's own conditions alone. -/
import Derived.Test.YtkoiffkonjpoiaaQM6
namespace Go.Proofs.Ytkoiffkonjpoiaa.Q
open Go.RowKit Go.Proofs.YtkoiffkonjpoiaaW.PrintWords Go.Proofs.YtkoiffkonjpoiaaW.PrintLast Go.Proofs.YtkoiffkonjpoiaaW.PrintMore Go.Proofs.YtkoiffkonjpoiaaX
attribute [local go_sem] max2_int min2_int max_two min_two max_three min_three max_four min_four
set_option linter.unusedVariables false
set_option linter.unusedSimpArgs false
set_option maxHeartbeats 8000000 in
set_option maxRecDepth 100000 in
theorem boscagelaw22_StoryFinds.calls (k : Nat) (A0 : Option Addr) (c0 : Nat) (l0 : List Int) (A1 : Option Addr) (c1 : Nat) (l1 : List S126) (A2 : Option Addr) (c2 : Nat) (l2 : List Int) (r : Bool) (w : World) (hr0 : Kd.C (Kd.int .i64) w A0 l0.length l0) (hc0 : l0.length ≤ c0) (hr1 : Kd.C k126 w A1 l1.length l1) (hc1 : l1.length ≤ c1) (hr2 : Kd.C (Kd.int .u8) w A2 l2.length l2) (hc2 : l2.length ≤ c2) (h : boscagelaw22_StoryFinds.f k l0 l1 l2 = some r) :
    Calls Try.prog 33 #[.slice A0 l0.length c0, .slice A1 l1.length c1, .slice A2 l2.length c2] w fun e w' => e = .returned (.bool r) ∧ Below w.heap.size w w' := by
  have hu128 := Try.underlying128
  have hu84 := Try.underlying84
  have hu78 := Try.underlying78
  have HR0 := Lib.hid hr0
  have HC0 := Lib.hid hc0
  have hl0 := hr0.2.1
  have HR1 := Lib.hid hr1
  have HC1 := Lib.hid hc1
  have hl1 := hr1.2.1
  have HR2 := Lib.hid hr2
  have HC2 := Lib.hid hc2
  have hl2 := hr2.2.1
  clear hr0 hc0 hr1 hc1 hr2 hc2
  unfold boscagelaw22_StoryFinds.f at h
  by_cases hg : okDs l1 ∧ okBs l2
  case neg => rw [if_neg hg] at h; cases h
  rw [if_pos hg] at h
  obtain ⟨hD, hBs⟩ := hg
  have HD := Lib.hid hD
  have HBs := Lib.hid hBs
  clear hD hBs
  by_cases hbig : 8 < l0.length ∨ 9 < l1.length
  case pos =>
    rw [if_pos hbig] at h
    obtain rfl := Option.some.inj h
    clear h
    obtain ⟨fb, hfb⟩ : ∃ fb, (decide ((l0.length : Int) ≤ 8) && decide ((l1.length : Int) ≤ 9)) = fb := ⟨_, rfl⟩
    have HFew := Lib.hid hfb
    cases fb with
    | false =>
      clear hbig hfb
      go_enter Try.func33, Try.ntmps33
      go_wp2_with (first | (go_at_call 84; refine (Awake22.calls _).mono ?_; rintro e_ w1 ⟨rfl, hb⟩; have HB1 := Lib.hid hb; clear hb) | (go_at_call 85; refine (few22.calls A0 c0 l0 A1 c1 l1 9 _ _ HFew.out).mono ?_; rintro e_ w2 ⟨rfl, hb⟩; have HB2 := Lib.hid (below_step HB1.out hb); clear hb))
      go_ret
      exact ⟨rfl, HB2.out⟩
    | true =>
      rw [Bool.and_eq_true, decide_eq_true_iff, decide_eq_true_iff] at hfb
      omega
  rw [if_neg hbig] at h
  have HFew : Hid ((decide ((l0.length : Int) ≤ 8) && decide ((l1.length : Int) ≤ 9)) = true) := Lib.hid (by rw [decide_eq_true (by omega), decide_eq_true (by omega)]; rfl)
  have hn1 : l1.length ≤ 1000 := by omega
  clear hbig
  obtain ⟨first, hL, h⟩ := Option.bind_eq_some_iff.1 h
  obtain ⟨h0, hH, h⟩ := Option.bind_eq_some_iff.1 h
  obtain ⟨h1, hh1⟩ : ∃ h1, Turned.f h0 l2 = h1 := ⟨_, rfl⟩
  rw [hh1] at h
  have hq0 : h0.length = l1.length := histGo_length k l1 0 _ _ hH
  have hn0 : h0.length ≤ 1000 := by omega
  obtain ⟨⟨ob, oso⟩, hO, h⟩ := Option.bind_eq_some_iff.1 h
  obtain ⟨xs, hxs⟩ : ∃ xs, toI oso = xs := ⟨_, rfl⟩
  dsimp only at h
  rw [hxs] at h
  have HT1 := Lib.hid hh1
  have HL := Lib.hid hL
  have HH := Lib.hid hH
  have HO := Lib.hid hO
  have HXs := Lib.hid hxs
  clear hL hH hh1 hq0 hO hxs
  have HHh := Lib.hid h
  clear h
  go_enter Try.func33, Try.ntmps33
  go_upto_region 8 with (first | (go_at_call 84; refine (Awake22.calls _).mono ?_; rintro e_ w1 ⟨rfl, hb⟩; have HB1 := Lib.hid hb; clear hb) | (go_at_call 85; refine (few22.calls A0 c0 l0 A1 c1 l1 9 _ _ HFew.out).mono ?_; rintro e_ w2 ⟨rfl, hb⟩; have HB2 := Lib.hid (below_step HB1.out hb); clear hb) | (go_at_call 44; refine (boscagelaw02_Rising.calls k _ _ l0 first _ ?_ HC0.out HL.out).mono ?_; (exact Kd.C_below HR0.out HB2.out); rintro e_ w3 ⟨vL, rfl, ho, hb⟩; obtain ⟨Al, cl, eL⟩ := Kd.R_slice ho; subst eL; have CL := Lib.hid (Kd.R_reads' ho).2; have HB3 := Lib.hid (below_step HB2.out hb); clear ho hb) | (go_at_call 88; refine (History.calls k Al cl first A1 c1 l1 h0 _ CL.out.2 CL.out.1 (Kd.C_below HR1.out HB3.out) HC1.out HD.out hn1 HH.out).mono ?_; rintro e_ w4 ⟨v4, rfl, hR, hb⟩; obtain ⟨A4, c4, e4⟩ := Kd.R_slice hR; subst e4; have HR4 := Lib.hid (Kd.R_lower hR (below_size HB3.out)); have HB4 := Lib.hid (below_step HB3.out hb); have CL4 := Lib.hid (And.intro CL.out.1 (Kd.C_below CL.out.2 hb)); clear hR hb) | (go_at_call 87; refine (Turned.calls A4 c4 h0 A2 c2 l2 w.heap.size _ HR4.out (below_size HB4.out) (Kd.C_below HR2.out HB4.out) HC2.out HBs.out hn0).mono ?_; rintro e_ w5 ⟨v5, rfl, hR, hb⟩; rw [HT1.out] at hR; obtain ⟨A5_, c5_, e5⟩ := Kd.R_slice hR; subst e5; have HR5_ := Lib.hid hR; have HB5 := Lib.hid (below_step HB4.out hb); have CL5 := Lib.hid (And.intro CL4.out.1 (Kd.C_below CL4.out.2 hb)); clear hR hb) | (go_at_call 92; refine (Order.calls k Al cl first A5_ c5_ h1 ob oso _ CL5.out.2 CL5.out.1 (Kd.R_reads' HR5_.out).2.2 (Kd.R_reads' HR5_.out).2.1 HO.out).mono ?_; rintro e_ w7 ⟨v7, rfl, hR, hb⟩; rw [HXs.out] at hR; obtain ⟨A7, c7, e7⟩ := Kd.R_slice hR; subst e7; have HR7 := Lib.hid (Kd.R_reads' hR).2; have HB7 := Lib.hid (below_step HB5.out hb); have CL7 := Lib.hid (And.intro CL5.out.1 (Kd.C_below CL5.out.2 hb)); have CH7 := Lib.hid (And.intro (Kd.R_reads' HR5_.out).2.1 (Kd.C_below (Kd.R_reads' HR5_.out).2.2 hb)); clear hR hb))
  have h := HHh.out
  cases ob with
  | false =>
    rw [if_neg (by simp)] at h
    obtain rfl := Option.some.inj h
    clear h
    go_wp2_with fail
    go_ret
    exact ⟨by first | rfl | simp, HB7.out⟩
  | true =>
    rw [if_pos rfl] at h
    obtain ⟨lb, hLb, h⟩ := Option.bind_eq_some_iff.1 h
    have HLb := Lib.hid hLb
    clear hLb
    cases lb with
    | false =>
      rw [if_neg (by simp)] at h
      obtain rfl := Option.some.inj h
      clear h
      go_wp2_with (first | (go_at_call 94; refine (Linear.calls k Al cl first A5_ c5_ h1 false _ CL7.out.2 CL7.out.1 CH7.out.2 CH7.out.1 HLb.out).mono ?_; rintro e_ w8 ⟨rfl, hb⟩; have HB8 := Lib.hid (below_step HB7.out hb); have CL8 := Lib.hid (And.intro CL7.out.1 (Kd.C_below CL7.out.2 hb)); have CH8 := Lib.hid (And.intro CH7.out.1 (Kd.C_below CH7.out.2 hb)); have HR8 := Lib.hid (And.intro HR7.out.1 (Kd.C_below HR7.out.2 hb)); clear hb))
      go_ret
      exact ⟨by first | rfl | simp, HB8.out⟩
    | true =>
      rw [if_pos rfl] at h
      obtain ⟨le, hLe, h⟩ := Option.bind_eq_some_iff.1 h
      have HLe := Lib.hid hLe
      clear hLe
      cases le with
      | false =>
        rw [if_neg (by simp)] at h
        obtain rfl := Option.some.inj h
        clear h
        go_wp2_with (first | (go_at_call 94; refine (Linear.calls k Al cl first A5_ c5_ h1 true _ CL7.out.2 CL7.out.1 CH7.out.2 CH7.out.1 HLb.out).mono ?_; rintro e_ w8 ⟨rfl, hb⟩; have HB8 := Lib.hid (below_step HB7.out hb); have CL8 := Lib.hid (And.intro CL7.out.1 (Kd.C_below CL7.out.2 hb)); have CH8 := Lib.hid (And.intro CH7.out.1 (Kd.C_below CH7.out.2 hb)); have HR8 := Lib.hid (And.intro HR7.out.1 (Kd.C_below HR7.out.2 hb)); clear hb) | (go_at_call 89; refine (Legal.calls k Al cl first A5_ c5_ h1 A7 c7 xs false _ CL8.out.2 CL8.out.1 CH8.out.2 CH8.out.1 HR8.out.2 HR8.out.1 HLe.out).mono ?_; rintro e_ w9 ⟨rfl, hb⟩; have HB9 := Lib.hid (below_step HB8.out hb); have CL9 := Lib.hid (And.intro CL8.out.1 (Kd.C_below CL8.out.2 hb)); have CH9 := Lib.hid (And.intro CH8.out.1 (Kd.C_below CH8.out.2 hb)); have HR9 := Lib.hid (And.intro HR8.out.1 (Kd.C_below HR8.out.2 hb)); clear hb))
        go_ret
        exact ⟨by first | rfl | simp, HB9.out⟩
      | true =>
        rw [if_pos rfl] at h
        obtain ⟨fi, hFi, h⟩ := Option.bind_eq_some_iff.1 h
        have HFi := Lib.hid hFi
        obtain ⟨wb, hwb⟩ : ∃ wb, Whole.f h1 xs = wb := ⟨_, rfl⟩
        rw [hwb] at h
        obtain rfl := Option.some.inj h
        have HWw := Lib.hid hwb
        clear hFi h hwb
        cases fi with
        | false =>
          go_wp2_with (first | (go_at_call 94; refine (Linear.calls k Al cl first A5_ c5_ h1 true _ CL7.out.2 CL7.out.1 CH7.out.2 CH7.out.1 HLb.out).mono ?_; rintro e_ w8 ⟨rfl, hb⟩; have HB8 := Lib.hid (below_step HB7.out hb); have CL8 := Lib.hid (And.intro CL7.out.1 (Kd.C_below CL7.out.2 hb)); have CH8 := Lib.hid (And.intro CH7.out.1 (Kd.C_below CH7.out.2 hb)); have HR8 := Lib.hid (And.intro HR7.out.1 (Kd.C_below HR7.out.2 hb)); clear hb) | (go_at_call 89; refine (Legal.calls k Al cl first A5_ c5_ h1 A7 c7 xs true _ CL8.out.2 CL8.out.1 CH8.out.2 CH8.out.1 HR8.out.2 HR8.out.1 HLe.out).mono ?_; rintro e_ w9 ⟨rfl, hb⟩; have HB9 := Lib.hid (below_step HB8.out hb); have CL9 := Lib.hid (And.intro CL8.out.1 (Kd.C_below CL8.out.2 hb)); have CH9 := Lib.hid (And.intro CH8.out.1 (Kd.C_below CH8.out.2 hb)); have HR9 := Lib.hid (And.intro HR8.out.1 (Kd.C_below HR8.out.2 hb)); clear hb) | (go_at_call 90; refine (Fits.calls k Al cl first A5_ c5_ h1 A7 c7 xs false _ CL9.out.2 CL9.out.1 CH9.out.2 CH9.out.1 HR9.out.2 HR9.out.1 HFi.out).mono ?_; rintro e_ w10 ⟨rfl, hb⟩; have HB10 := Lib.hid (below_step HB9.out hb); have CL10 := Lib.hid (And.intro CL9.out.1 (Kd.C_below CL9.out.2 hb)); have CH10 := Lib.hid (And.intro CH9.out.1 (Kd.C_below CH9.out.2 hb)); have HR10 := Lib.hid (And.intro HR9.out.1 (Kd.C_below HR9.out.2 hb)); clear hb))
          go_ret
          exact ⟨by first | rfl | simp, HB10.out⟩
        | true =>
          go_wp2_with (first | (go_at_call 94; refine (Linear.calls k Al cl first A5_ c5_ h1 true _ CL7.out.2 CL7.out.1 CH7.out.2 CH7.out.1 HLb.out).mono ?_; rintro e_ w8 ⟨rfl, hb⟩; have HB8 := Lib.hid (below_step HB7.out hb); have CL8 := Lib.hid (And.intro CL7.out.1 (Kd.C_below CL7.out.2 hb)); have CH8 := Lib.hid (And.intro CH7.out.1 (Kd.C_below CH7.out.2 hb)); have HR8 := Lib.hid (And.intro HR7.out.1 (Kd.C_below HR7.out.2 hb)); clear hb) | (go_at_call 89; refine (Legal.calls k Al cl first A5_ c5_ h1 A7 c7 xs true _ CL8.out.2 CL8.out.1 CH8.out.2 CH8.out.1 HR8.out.2 HR8.out.1 HLe.out).mono ?_; rintro e_ w9 ⟨rfl, hb⟩; have HB9 := Lib.hid (below_step HB8.out hb); have CL9 := Lib.hid (And.intro CL8.out.1 (Kd.C_below CL8.out.2 hb)); have CH9 := Lib.hid (And.intro CH8.out.1 (Kd.C_below CH8.out.2 hb)); have HR9 := Lib.hid (And.intro HR8.out.1 (Kd.C_below HR8.out.2 hb)); clear hb) | (go_at_call 90; refine (Fits.calls k Al cl first A5_ c5_ h1 A7 c7 xs true _ CL9.out.2 CL9.out.1 CH9.out.2 CH9.out.1 HR9.out.2 HR9.out.1 HFi.out).mono ?_; rintro e_ w10 ⟨rfl, hb⟩; have HB10 := Lib.hid (below_step HB9.out hb); have CL10 := Lib.hid (And.intro CL9.out.1 (Kd.C_below CL9.out.2 hb)); have CH10 := Lib.hid (And.intro CH9.out.1 (Kd.C_below CH9.out.2 hb)); have HR10 := Lib.hid (And.intro HR9.out.1 (Kd.C_below HR9.out.2 hb)); clear hb) | (go_at_call 91; refine (Whole.calls A5_ c5_ h1 A7 c7 xs _ CH10.out.2 CH10.out.1 HR10.out.2 HR10.out.1).mono ?_; rintro e_ w11 ⟨rfl, hb⟩; rw [HWw.out]; have HB11 := Lib.hid (below_step HB10.out hb); have CL11 := Lib.hid (And.intro CL10.out.1 (Kd.C_below CL10.out.2 hb)); have CH11 := Lib.hid (And.intro CH10.out.1 (Kd.C_below CH10.out.2 hb)); have HR11 := Lib.hid (And.intro HR10.out.1 (Kd.C_below HR10.out.2 hb)); clear hb))
          go_ret
          exact ⟨by first | rfl | simp, HB11.out⟩
end Go.Proofs.Ytkoiffkonjpoiaa.Q
