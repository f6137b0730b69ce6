/- The walk of StoryOrders, by hand: what the law does in memory, told by a plain function; under the contract's own conditions alone. -/
import Derived.Test.YtkoiffkonjpoiaaQM6
namespace Go.Proofs.Ytkoiffkonjpoiaa.Q
open Go.RowKit Go.Proofs.YtkoiffkonjpoiaaW.PrintWords Go.Proofs.YtkoiffkonjpoiaaW.PrintLast Go.Proofs.YtkoiffkonjpoiaaW.PrintMore Go.Proofs.YtkoiffkonjpoiaaX
attribute [local go_sem] max2_int min2_int max_two min_two max_three min_three max_four min_four
set_option linter.unusedVariables false
set_option linter.unusedSimpArgs false
set_option maxHeartbeats 8000000 in
set_option maxRecDepth 100000 in
theorem boscagelaw22_StoryOrders.calls (k : Nat) (A0 : Option Addr) (c0 : Nat) (l0 : List Int) (A1 : Option Addr) (c1 : Nat) (l1 : List S126) (A2 : Option Addr) (c2 : Nat) (l2 : List Int) (a3 : Int) (a4 : Int) (r : Bool) (w : World) (hr0 : Kd.C (Kd.int .i64) w A0 l0.length l0) (hc0 : l0.length ≤ c0) (hr1 : Kd.C k126 w A1 l1.length l1) (hc1 : l1.length ≤ c1) (hr2 : Kd.C (Kd.int .u8) w A2 l2.length l2) (hc2 : l2.length ≤ c2) (h : boscagelaw22_StoryOrders.f k l0 l1 l2 a3 a4 = some r) :
    Calls Try.prog 32 #[.slice A0 l0.length c0, .slice A1 l1.length c1, .slice A2 l2.length c2, .int .u8 a3, .int .u8 a4] w fun e w' => e = .returned (.bool r) ∧ Below w.heap.size w w' := by
  have hu128 := Try.underlying128
  have hu84 := Try.underlying84
  have hu78 := Try.underlying78
  have HR0 := Lib.hid hr0
  have HC0 := Lib.hid hc0
  have hl0 := hr0.2.1
  have HR1 := Lib.hid hr1
  have HC1 := Lib.hid hc1
  have hl1 := hr1.2.1
  have HR2 := Lib.hid hr2
  have HC2 := Lib.hid hc2
  have hl2 := hr2.2.1
  clear hr0 hc0 hr1 hc1 hr2 hc2
  unfold boscagelaw22_StoryOrders.f at h
  by_cases hg : okDs l1 ∧ okBs l2 ∧ okB a3 ∧ okB a4
  case neg => rw [if_neg hg] at h; cases h
  rw [if_pos hg] at h
  obtain ⟨hD, hBs, hwh, hwt⟩ := hg
  have HD := Lib.hid hD
  have HBs := Lib.hid hBs
  have HWh := Lib.hid hwh
  have HWt := Lib.hid hwt
  clear hD hBs hwh hwt
  by_cases hbig : 8 < l0.length ∨ 5 < l1.length
  case pos =>
    rw [if_pos hbig] at h
    obtain rfl := Option.some.inj h
    clear h
    obtain ⟨fb, hfb⟩ : ∃ fb, (decide ((l0.length : Int) ≤ 8) && decide ((l1.length : Int) ≤ 5)) = fb := ⟨_, rfl⟩
    have HFew := Lib.hid hfb
    cases fb with
    | false =>
      clear hbig hfb
      go_enter Try.func32, Try.ntmps32
      go_wp2_with (first | (go_at_call 84; refine (Awake22.calls _).mono ?_; rintro e_ w1 ⟨rfl, hb⟩; have HB1 := Lib.hid hb; clear hb) | (go_at_call 85; refine (few22.calls A0 c0 l0 A1 c1 l1 5 _ _ HFew.out).mono ?_; rintro e_ w2 ⟨rfl, hb⟩; have HB2 := Lib.hid (below_step HB1.out hb); clear hb))
      go_ret
      exact ⟨rfl, HB2.out⟩
    | true =>
      rw [Bool.and_eq_true, decide_eq_true_iff, decide_eq_true_iff] at hfb
      omega
  rw [if_neg hbig] at h
  have HFew : Hid ((decide ((l0.length : Int) ≤ 8) && decide ((l1.length : Int) ≤ 5)) = true) := Lib.hid (by rw [decide_eq_true (by omega), decide_eq_true (by omega)]; rfl)
  have hn1 : l1.length ≤ 1000 := by omega
  clear hbig
  obtain ⟨⟨first', h2⟩, ht, h⟩ := Option.bind_eq_some_iff.1 h
  unfold told at ht
  obtain ⟨first, hL, ht⟩ := Option.bind_eq_some_iff.1 ht
  obtain ⟨h0, hH, ht⟩ := Option.bind_eq_some_iff.1 ht
  obtain ⟨e1, e2⟩ := Prod.mk.inj (Option.some.inj ht)
  subst e1
  obtain ⟨h1, hh1⟩ : ∃ h1, Turned.f h0 l2 = h1 := ⟨_, rfl⟩
  rw [hh1] at e2
  have hq0 : h0.length = l1.length := histGo_length k l1 0 _ _ hH
  have hq1 : h1.length = h0.length := by rw [← hh1, Turned.length]
  have hq2 : h2.length = h1.length := by rw [← e2, Spoilt.length]
  have hn0 : h0.length ≤ 1000 := by omega
  have hn1' : h1.length ≤ 1000 := by omega
  have hn2 : h2.length ≤ 1000 := by omega
  have HT1 := Lib.hid hh1
  have HS2 := Lib.hid e2
  have HL := Lib.hid hL
  have HH : Hid (History.f k first l1 = some h0) := Lib.hid hH
  clear ht hH hL e2 hh1 hq0 hq1 hq2
  dsimp only at h
  obtain ⟨⟨ob, oso⟩, hO, h⟩ := Option.bind_eq_some_iff.1 h
  obtain ⟨⟨wb, wso⟩, hFi, h⟩ := Option.bind_eq_some_iff.1 h
  obtain ⟨xs, hxs⟩ : ∃ xs, toI oso = xs := ⟨_, rfl⟩
  have hxl : oso.length = xs.length := by rw [← hxs]; simp [toI]
  dsimp only at h
  rw [hxl, hxs] at h
  have HO := Lib.hid hO
  have HFi := Lib.hid hFi
  have HXs := Lib.hid hxs
  have HHh := Lib.hid h
  clear hO hFi hxs hxl h
  go_enter Try.func32, Try.ntmps32
  go_upto_region 9 with (first | (go_at_call 84; refine (Awake22.calls _).mono ?_; rintro e_ w1 ⟨rfl, hb⟩; have HB1 := Lib.hid hb; clear hb) | (go_at_call 85; refine (few22.calls A0 c0 l0 A1 c1 l1 5 _ _ HFew.out).mono ?_; rintro e_ w2 ⟨rfl, hb⟩; have HB2 := Lib.hid (below_step HB1.out hb); clear hb) | (go_at_call 44; refine (boscagelaw02_Rising.calls k _ _ l0 first _ ?_ HC0.out HL.out).mono ?_; (exact Kd.C_below HR0.out HB2.out); rintro e_ w3 ⟨vL, rfl, ho, hb⟩; obtain ⟨Al, cl, eL⟩ := Kd.R_slice ho; subst eL; have CL := Lib.hid (Kd.R_reads' ho).2; have HB3 := Lib.hid (below_step HB2.out hb); clear ho hb) | (go_at_call 88; refine (History.calls k Al cl first A1 c1 l1 h0 _ CL.out.2 CL.out.1 (Kd.C_below HR1.out HB3.out) HC1.out HD.out hn1 HH.out).mono ?_; rintro e_ w4 ⟨v4, rfl, hR, hb⟩; obtain ⟨A4, c4, e4⟩ := Kd.R_slice hR; subst e4; have HR4 := Lib.hid (Kd.R_lower hR (below_size HB3.out)); have HB4 := Lib.hid (below_step HB3.out hb); have CL4 := Lib.hid (And.intro CL.out.1 (Kd.C_below CL.out.2 hb)); clear hR hb) | (go_at_call 87; refine (Turned.calls A4 c4 h0 A2 c2 l2 w.heap.size _ HR4.out (below_size HB4.out) (Kd.C_below HR2.out HB4.out) HC2.out HBs.out hn0).mono ?_; rintro e_ w5 ⟨v5, rfl, hR, hb⟩; rw [HT1.out] at hR; obtain ⟨A5_, c5_, e5⟩ := Kd.R_slice hR; subst e5; have HR5_ := Lib.hid hR; have HB5 := Lib.hid (below_step HB4.out hb); have CL5 := Lib.hid (And.intro CL4.out.1 (Kd.C_below CL4.out.2 hb)); clear hR hb) | (go_at_call 86; refine (Spoilt.calls A5_ c5_ h1 a3 a4 w.heap.size _ HR5_.out (below_size HB5.out) HWh.out HWt.out hn1').mono ?_; rintro e_ w6 ⟨v6, rfl, hR, hb⟩; rw [HS2.out] at hR; obtain ⟨A6, c6, e6⟩ := Kd.R_slice hR; subst e6; have HR6 := Lib.hid hR; have HB6 := Lib.hid (below_step HB5.out hb); have CL6 := Lib.hid (And.intro CL5.out.1 (Kd.C_below CL5.out.2 hb)); clear hR hb) | (go_at_call 92; refine (Order.calls k Al cl first A6 c6 h2 ob oso _ CL6.out.2 CL6.out.1 (Kd.R_reads' HR6.out).2.2 (Kd.R_reads' HR6.out).2.1 HO.out).mono ?_; rintro e_ w7 ⟨v7, rfl, hR, hb⟩; rw [HXs.out] at hR; obtain ⟨A7, c7, e7⟩ := Kd.R_slice hR; subst e7; have HR7 := Lib.hid (Kd.R_reads' hR).2; have HB7 := Lib.hid (below_step HB6.out hb); have CL7 := Lib.hid (And.intro CL6.out.1 (Kd.C_below CL6.out.2 hb)); have CH7 := Lib.hid (And.intro (Kd.R_reads' HR6.out).2.1 (Kd.C_below (Kd.R_reads' HR6.out).2.2 hb)); clear hR hb) | (go_at_call 93; refine Calls.mono (First.calls k Al cl first A6 c6 h2 CL7.out.1 CH7.out.1 100 [] wb wso HFi.out (by simp) none 0 _ CL7.out.2 CH7.out.2 (Kd.C_nil _ _) (Nat.le_refl _)) ?_; rintro e_ w8 ⟨A8, c8, rfl, hc8, hC8, hb⟩; have HR8 := Lib.hid (And.intro hc8 hC8); have HB8 := Lib.hid (below_step HB7.out hb); have CL8 := Lib.hid (And.intro CL7.out.1 (Kd.C_below CL7.out.2 hb)); have CH8 := Lib.hid (And.intro CH7.out.1 (Kd.C_below CH7.out.2 hb)); have HR78 := Lib.hid (And.intro HR7.out.1 (Kd.C_below HR7.out.2 hb)); clear hc8 hC8 hb))
  have h := HHh.out
  by_cases how : ob = wb
  case neg =>
    rw [if_pos (.inl how)] at h
    obtain rfl := Option.some.inj h
    have hx1 : (ob != wb) = true := by rw [bne_iff_ne]; exact how
    have hx2 : (ob == wb) = false := by rw [beq_eq_false_iff_ne]; exact how
    clear h how
    go_wp2_with fail
    go_ret
    exact ⟨rfl, HB8.out⟩
  subst how
  by_cases hlen : xs.length = wso.length
  · rw [if_neg (by rintro (h1 | h1); exact h1 rfl; exact h1 hlen)] at h
    obtain ⟨lb, hLb, h⟩ := Option.bind_eq_some_iff.1 h
    have HLb := Lib.hid hLb
    have hle1 : xs.length ≤ wso.length := by omega
    have hle2 : wso.length ≤ xs.length := by omega
    have hlb1 : ((xs.length : Int) != (wso.length : Int)) = false := by simp [hlen]
    have hlb2 : ((xs.length : Int) == (wso.length : Int)) = true := by simp [hlen]
    have hlb3 : decide ((xs.length : Int) = (wso.length : Int)) = true := by simp [hlen]
    have hlb4 : (xs.length : Int) = (wso.length : Int) := by omega
    have HLN := Lib.hid hlen
    clear hLb hlen
    by_cases hlw : lb = ob
    · subst hlw
      rw [if_neg (by simp)] at h
      have HD2 := Lib.hid (Option.some.inj h)
      clear h
      go_upto_block 0 with (go_at_call 94; refine (Linear.calls k Al cl first A6 c6 h2 lb _ CL8.out.2 CL8.out.1 CH8.out.2 CH8.out.1 HLb.out).mono ?_; rintro e_ w9 ⟨rfl, hb⟩; have HB9 := Lib.hid (below_step HB8.out hb); have HX9 := Lib.hid (And.intro HR78.out.1 (Kd.C_below HR78.out.2 hb)); have HW9 := Lib.hid (And.intro HR8.out.1 (Kd.C_below HR8.out.2 hb)); clear hb)
      clear hlb1 hlb2 hlb3 hlb4
      go_wp2_with fail
      go_loopg [65] wso.length (fun gk v65 W => ∃ (i : Nat), v65 = .int .i64 (i : Int) ∧ i ≤ wso.length ∧ wso.length - i ≤ gk ∧ Hid (∀ m, m < i → xs.getD m 0 = wso.getD m 0) ∧ Hid (Below w9.heap.size w9 W))
      case atStart => exact ⟨0, rfl, by omega, by omega, Lib.hid (fun m hm => by omega), Lib.hid (Below.refl _ _)⟩
      case round =>
        obtain ⟨i, rfl, hi1, hgk, HE, HBw⟩ := hrel
        by_cases hi : i < wso.length
        · obtain ⟨ad2, e2, y0⟩ := Kd.at_int (Kd.C_below HX9.out.2 HBw.out) (i : Int) (by omega) (by omega)
          cases e2
          obtain ⟨ad3, e3, y1⟩ := Kd.at_int (Kd.C_below HW9.out.2 HBw.out) (i : Int) (by omega) (by omega)
          cases e3
          rw [Int.toNat_natCast] at y0 y1
          obtain ⟨x, hx⟩ : ∃ x, x = rd xs (i : Int) := ⟨_, rfl⟩
          obtain ⟨y, hy⟩ : ∃ y, y = rd wso (i : Int) := ⟨_, rfl⟩
          rw [← hx] at y0
          rw [← hy] at y1
          have HXY := Lib.hid (And.intro hx hy)
          clear hx hy
          have hid : decide ((i : Int) < (wso.length : Int)) = true := decide_eq_true (by omega)
          have hid2 : decide ((i : Int) < (xs.length : Int)) = true := decide_eq_true (by omega)
          have hiw : IntKind.i64.wrap ((i : Int) + 1) = (i : Int) + 1 := by
            have := C_len HW9.out.2
            have := HW9.out.2.2.1
            rw [IntKind.wrap_i64]; omega
          have hix : i < xs.length := by omega
          have hix2 : decide (i < xs.length) = true := decide_eq_true hix
          have hix3 : decide (i < wso.length) = true := decide_eq_true hi
          go_upto_region 14 with (fail)
          refine drawn_all (by kernel_rfl) ?_
          intro W hW hBW
          have HB2w := Lib.hid (below_step HBw.out hBW)
          have y0' := pw_cell_below hBW y0
          have y1' := pw_cell_below hBW y1
          clear hW hBW y0 y1
          repeat still_step
          refine wpStill_nil ?_
          by_cases hxy : x = y
          · have HE2 : Hid (∀ m, m < i + 1 → xs.getD m 0 = wso.getD m 0) := Lib.hid (fun m hm => by
              rcases Nat.lt_or_ge m i with h1 | h1
              · exact HE.out m h1
              · obtain rfl : m = i := by omega
                exact HXY.out.1.symm.trans (hxy.trans HXY.out.2))
            subst hxy
            go_wp2_with fail
            go_roundg (wso.length - (i + 1))
            case rel => exact ⟨i + 1, by first | rfl | exact congrArg _ hiw | (simp [hiw]), by omega, by omega, HE2, HB2w⟩
            all_goals omega
          · have hb1 : (x == y) = false := by rw [beq_eq_false_iff_ne]; exact hxy
            have hb2 : decide (x = y) = false := decide_eq_false hxy
            have hrf : r = false := by
              rw [← HD2.out]
              refine decide_eq_false (fun he => hxy ?_)
              rw [HXY.out.1, HXY.out.2, he]
            subst hrf
            go_wp2_with fail
            go_ret
            exact ⟨rfl, below_step HB9.out HB2w.out⟩
        · obtain rfl : i = wso.length := by omega
          have hid : decide ((wso.length : Int) < (wso.length : Int)) = false := decide_eq_false (by omega)
          have hrt : r = true := by
            rw [← HD2.out]
            refine decide_eq_true (List.ext_getElem HLN.out (fun m h1 h2 => ?_))
            have := HE.out m (by omega)
            rw [List.getD_eq_getElem?_getD, List.getD_eq_getElem?_getD, List.getElem?_eq_getElem h1, List.getElem?_eq_getElem h2] at this
            exact this
          subst hrt
          go_wp2_with fail
          go_ret
          exact ⟨rfl, below_step HB9.out HBw.out⟩
    · rw [if_pos hlw] at h
      obtain rfl := Option.some.inj h
      have hx1 : (lb != ob) = true := by rw [bne_iff_ne]; exact hlw
      have hx2 : (lb == ob) = false := by rw [beq_eq_false_iff_ne]; exact hlw
      clear h hlw
      go_wp2_with (go_at_call 94; refine (Linear.calls k Al cl first A6 c6 h2 lb _ CL8.out.2 CL8.out.1 CH8.out.2 CH8.out.1 HLb.out).mono ?_; rintro e_ w9 ⟨rfl, hb⟩; have HB9 := Lib.hid (below_step HB8.out hb); have HX9 := Lib.hid (And.intro HR78.out.1 (Kd.C_below HR78.out.2 hb)); have HW9 := Lib.hid (And.intro HR8.out.1 (Kd.C_below HR8.out.2 hb)); clear hb)
      go_ret
      exact ⟨rfl, HB9.out⟩
  · rw [if_pos (.inr hlen)] at h
    obtain rfl := Option.some.inj h
    have hlb1 : ((xs.length : Int) != (wso.length : Int)) = true := by rw [bne_iff_ne]; omega
    have hlb2 : ((xs.length : Int) == (wso.length : Int)) = false := by rw [beq_eq_false_iff_ne]; omega
    have hlb3 : decide ((xs.length : Int) = (wso.length : Int)) = false := decide_eq_false (by omega)
    have hlb4 : ¬ (xs.length : Int) = (wso.length : Int) := by omega
    clear h hlen
    go_wp2_with fail
    go_ret
    exact ⟨rfl, HB8.out⟩
end Go.Proofs.Ytkoiffkonjpoiaa.Q
