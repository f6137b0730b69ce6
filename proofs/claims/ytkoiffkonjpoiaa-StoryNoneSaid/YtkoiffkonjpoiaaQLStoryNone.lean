/- The walk of StoryNone, by hand: what the law does in memory, told by a plain function; under the contract's own conditions alone. -/
import Derived.Test.YtkoiffkonjpoiaaQM4
namespace Go.Proofs.Ytkoiffkonjpoiaa.Q
open Go.RowKit Go.Proofs.YtkoiffkonjpoiaaW.PrintWords Go.Proofs.YtkoiffkonjpoiaaW.PrintLast Go.Proofs.YtkoiffkonjpoiaaW.PrintMore Go.Proofs.YtkoiffkonjpoiaaX
attribute [local go_sem] max2_int min2_int max_two min_two max_three min_three max_four min_four
set_option linter.unusedVariables false
set_option linter.unusedSimpArgs false
set_option maxHeartbeats 8000000 in
set_option maxRecDepth 100000 in
theorem boscagelaw22_StoryNone.calls (k : Nat) (A0 : Option Addr) (c0 : Nat) (l0 : List Int) (A1 : Option Addr) (c1 : Nat) (l1 : List S126) (A2 : Option Addr) (c2 : Nat) (l2 : List Int) (a3 : Int) (a4 : Int) (a5 : Int) (a6 : Bool) (r : Bool) (w : World) (hr0 : Kd.C (Kd.int .i64) w A0 l0.length l0) (hc0 : l0.length ≤ c0) (hr1 : Kd.C k126 w A1 l1.length l1) (hc1 : l1.length ≤ c1) (hr2 : Kd.C (Kd.int .u8) w A2 l2.length l2) (hc2 : l2.length ≤ c2) (h : boscagelaw22_StoryNone.f k l0 l1 l2 a3 a4 a5 a6 = some r) :
    Calls Try.prog 36 #[.slice A0 l0.length c0, .slice A1 l1.length c1, .slice A2 l2.length c2, .int .u8 a3, .int .u8 a4, .int .u8 a5, .bool a6] w fun e w' => e = .returned (.bool r) ∧ Below w.heap.size w w' := by
  have hu128 := Try.underlying128
  have hu84 := Try.underlying84
  have hu78 := Try.underlying78
  have HR0 := Lib.hid hr0
  have HC0 := Lib.hid hc0
  have hl0 := hr0.2.1
  have HR1 := Lib.hid hr1
  have HC1 := Lib.hid hc1
  have hl1 := hr1.2.1
  have HR2 := Lib.hid hr2
  have HC2 := Lib.hid hc2
  have hl2 := hr2.2.1
  clear hr0 hc0 hr1 hc1 hr2 hc2
  unfold boscagelaw22_StoryNone.f at h
  by_cases hg : okDs l1 ∧ okBs l2 ∧ okB a3 ∧ okB a4 ∧ okB a5
  case neg => rw [if_neg hg] at h; cases h
  rw [if_pos hg] at h
  obtain ⟨hD, hBs, hwh, hwt, hwm⟩ := hg
  have HD := Lib.hid hD
  have HBs := Lib.hid hBs
  have HWh := Lib.hid hwh
  have HWt := Lib.hid hwt
  have HWm := Lib.hid hwm
  clear hD hBs hwh hwt hwm
  by_cases hbig : 8 < l0.length ∨ 6 < l1.length
  case pos =>
    rw [if_pos hbig] at h
    obtain rfl := Option.some.inj h
    clear h
    obtain ⟨fb, hfb⟩ : ∃ fb, (decide ((l0.length : Int) ≤ 8) && decide ((l1.length : Int) ≤ 6)) = fb := ⟨_, rfl⟩
    have HFew := Lib.hid hfb
    cases fb with
    | false =>
      clear hbig hfb
      go_enter Try.func36, Try.ntmps36
      go_wp2_with (first | (go_at_call 84; refine (Awake22.calls _).mono ?_; rintro e_ w1 ⟨rfl, hb⟩; have HB1 := Lib.hid hb; clear hb) | (go_at_call 85; refine (few22.calls A0 c0 l0 A1 c1 l1 6 _ _ HFew.out).mono ?_; rintro e_ w2 ⟨rfl, hb⟩; have HB2 := Lib.hid (below_step HB1.out hb); clear hb))
      go_ret
      exact ⟨rfl, HB2.out⟩
    | true =>
      rw [Bool.and_eq_true, decide_eq_true_iff, decide_eq_true_iff] at hfb
      omega
  rw [if_neg hbig] at h
  have HFew : Hid ((decide ((l0.length : Int) ≤ 8) && decide ((l1.length : Int) ≤ 6)) = true) := Lib.hid (by rw [decide_eq_true (by omega), decide_eq_true (by omega)]; rfl)
  have hn1 : l1.length ≤ 1000 := by omega
  clear hbig
  obtain ⟨⟨first', h2⟩, ht, h⟩ := Option.bind_eq_some_iff.1 h
  unfold told at ht
  obtain ⟨first, hL, ht⟩ := Option.bind_eq_some_iff.1 ht
  obtain ⟨h0, hH, ht⟩ := Option.bind_eq_some_iff.1 ht
  obtain ⟨e1, e2⟩ := Prod.mk.inj (Option.some.inj ht)
  subst e1
  obtain ⟨h1, hh1⟩ : ∃ h1, Turned.f h0 l2 = h1 := ⟨_, rfl⟩
  rw [hh1] at e2
  have hq0 : h0.length = l1.length := histGo_length k l1 0 _ _ hH
  have hq1 : h1.length = h0.length := by rw [← hh1, Turned.length]
  have hq2 : h2.length = h1.length := by rw [← e2, Spoilt.length]
  have hn0 : h0.length ≤ 1000 := by omega
  have hn1' : h1.length ≤ 1000 := by omega
  have hn2 : h2.length ≤ 1000 := by omega
  have HT1 := Lib.hid hh1
  have HS2 := Lib.hid e2
  have HL := Lib.hid hL
  have HH : Hid (History.f k first l1 = some h0) := Lib.hid hH
  clear ht hH hL e2 hh1 hq0 hq1 hq2
  dsimp only at h
  obtain ⟨nn, rfl⟩ := Int.eq_ofNat_of_zero_le HWm.out.1
  obtain ⟨m, hm⟩ : ∃ m, m = nn % (h2.length + 1) := ⟨_, rfl⟩
  have hml : m ≤ h2.length := by rw [hm]; exact Nat.le_of_lt_succ (Nat.mod_lt _ (Nat.succ_pos _))
  rw [Int.toNat_natCast, ← hm] at h
  obtain ⟨e, he⟩ : ∃ e, e = idleE a6 := ⟨_, rfl⟩
  rw [← he] at h
  obtain ⟨hm_, hhm⟩ : ∃ x, x = insAt h2 m e := ⟨_, rfl⟩
  rw [← hhm] at h
  obtain ⟨la, hLa, h⟩ := Option.bind_eq_some_iff.1 h
  obtain ⟨lb, hLb, h⟩ := Option.bind_eq_some_iff.1 h
  obtain rfl := Option.some.inj h
  have HLa := Lib.hid hLa
  have HLb := Lib.hid hLb
  have HMm := Lib.hid hm
  have HEe := Lib.hid he
  have HHm := Lib.hid hhm
  have HEn : Hid (noneE e = true ∧ decide (0 ≤ e.f3) = true) := Lib.hid (by rw [he]; cases a6 <;> exact ⟨rfl, rfl⟩)
  clear h hLa hLb hm he hhm
  go_enter Try.func36, Try.ntmps36
  go_upto_region 7 with (first | (go_at_call 84; refine (Awake22.calls _).mono ?_; rintro e_ w1 ⟨rfl, hb⟩; have HB1 := Lib.hid hb; clear hb) | (go_at_call 85; refine (few22.calls A0 c0 l0 A1 c1 l1 6 _ _ HFew.out).mono ?_; rintro e_ w2 ⟨rfl, hb⟩; have HB2 := Lib.hid (below_step HB1.out hb); clear hb) | (go_at_call 44; refine (boscagelaw02_Rising.calls k _ _ l0 first _ ?_ HC0.out HL.out).mono ?_; (exact Kd.C_below HR0.out HB2.out); rintro e_ w3 ⟨vL, rfl, ho, hb⟩; obtain ⟨Al, cl, eL⟩ := Kd.R_slice ho; subst eL; have CL := Lib.hid (Kd.R_reads' ho).2; have HB3 := Lib.hid (below_step HB2.out hb); clear ho hb) | (go_at_call 88; refine (History.calls k Al cl first A1 c1 l1 h0 _ CL.out.2 CL.out.1 (Kd.C_below HR1.out HB3.out) HC1.out HD.out hn1 HH.out).mono ?_; rintro e_ w4 ⟨v4, rfl, hR, hb⟩; obtain ⟨A4, c4, e4⟩ := Kd.R_slice hR; subst e4; have HR4 := Lib.hid (Kd.R_lower hR (below_size HB3.out)); have HB4 := Lib.hid (below_step HB3.out hb); have CL4 := Lib.hid (And.intro CL.out.1 (Kd.C_below CL.out.2 hb)); clear hR hb) | (go_at_call 87; refine (Turned.calls A4 c4 h0 A2 c2 l2 w.heap.size _ HR4.out (below_size HB4.out) (Kd.C_below HR2.out HB4.out) HC2.out HBs.out hn0).mono ?_; rintro e_ w5 ⟨v5, rfl, hR, hb⟩; rw [HT1.out] at hR; obtain ⟨A5_, c5_, e5⟩ := Kd.R_slice hR; subst e5; have HR5_ := Lib.hid hR; have HB5 := Lib.hid (below_step HB4.out hb); have CL5 := Lib.hid (And.intro CL4.out.1 (Kd.C_below CL4.out.2 hb)); clear hR hb) | (go_at_call 86; refine (Spoilt.calls A5_ c5_ h1 a3 a4 w.heap.size _ HR5_.out (below_size HB5.out) HWh.out HWt.out hn1').mono ?_; rintro e_ w6 ⟨v6, rfl, hR, hb⟩; rw [HS2.out] at hR; obtain ⟨A6, c6, e6⟩ := Kd.R_slice hR; subst e6; have HR6 := Lib.hid hR; have HB6 := Lib.hid (below_step HB5.out hb); have CL6 := Lib.hid (And.intro CL5.out.1 (Kd.C_below CL5.out.2 hb)); clear hR hb))
  go_upto_if 39 with (fail)
  refine find.settle (p := fun W => Code.wp _ _ _ _ W) (R := fun W => Hid (W.heap[w6.heap.size]? = some (.cells (evA (idleE false) none 0) 128 (0, 0))) ∧ Hid (Below w6.heap.size w6 W)) ⟨Lib.hid (heap_alloc_new _ _), Lib.hid (below_alloc (Below.refl _ _) _)⟩ ?_
  rintro w7 ⟨HX, BS⟩
  go_cut [39] (fun v39 wc => Hid (wc.heap[w6.heap.size]? = some (.cells (evA (idleE a6) none 0) 128 (0, 0))) ∧ Hid (Below w6.heap.size w6 wc))
  case first =>
    clear HEe HEn
    have z7 := (ev_cells HX.out).2.2.2.2.2.2.2.1
    have z7f := blk_frozen HX.out 7
    cases a6 with
    | false =>
      go_wp2_with fail
      go_meet
      case rel => exact ⟨HX, BS⟩
    | true =>
      go_wp2_with fail
      go_meet
      case rel => exact ⟨Lib.hid (blk_put HX.out 7 _ rfl), Lib.hid (below_set BS.out (Nat.le_refl _))⟩
  case rest =>
    obtain ⟨HX8, BS8⟩ := hcut
    clear HX BS
    rw [← HEe.out] at HX8
    have hmn : (nn : Int).tmod ((h2.length : Int) + 1) = (m : Int) := by
      rw [HMm.out]
      show (nn : Int).tmod ((h2.length + 1 : Nat) : Int) = _
      rw [← Int.ofNat_tmod]
    have hne : ((h2.length : Int) + 1 == 0) = false := by rw [beq_eq_false_iff_ne]; omega
    have hne2 : ¬ ((h2.length : Int) + 1 = 0) := by omega
    have hne3 : decide ((h2.length : Int) + 1 = 0) = false := decide_eq_false hne2
    have hnw := wrap_small nn (by have := HWm.out.2; omega)
    have hlw := wrap_small (h2.length + 1) (by omega)
    have hlw2 : wrap64 ((h2.length : Int) + 1) = (h2.length : Int) + 1 := hlw
    clear hlw
    go_upto_region 11 with (fail)
    refine find.settle (p := fun W => Code.wp _ _ _ _ W) (R := fun W => Hid (W.heap[w6.heap.size]? = some (.cells (evA e none 0) 128 (0, 0))) ∧ Hid (Below w6.heap.size w6 W)) ⟨HX8, BS8⟩ ?_
    clear HX8 BS8 hnw hlw2 hmn hne hne2 hne3
    rintro w3 ⟨HX, BS⟩
    have hBw : w.heap.size ≤ w3.heap.size := Nat.le_trans HB6.out.size BS.out.size
    have HR3 := Kd.R_below HR6.out BS.out
    obtain ⟨Ao, co, eo, hco, hEo⟩ := EvRows.of HR3
    injection eo with eo1 _ eo2
    subst eo1
    subst eo2
    have HT := Lib.hid (EvRows.take hEo hml)
    obtain ⟨Ad, hAd⟩ : ∃ Ad, Ad = if c6 = m then A6 else A6.map (·.add (m * 13)) := ⟨_, rfl⟩
    have hdr := EvRows.drop hEo hml hco
    rw [← hAd] at hdr
    have HDr := Lib.hid hdr
    have HM : Hid (k128.M w3 w.heap.size (fun b => b < w3.heap.size) e (evL e none 0)) := Lib.hid (by rw [HEe.out]; exact k128_mkM _ _ _ (idleE a6) (v11 := .slice none 0 0) (Kd.R_nil _ _ _ _ _))
    obtain ⟨i0, hi0, hz0, hs0, hb0⟩ := info_parts info128
    have hcut1 := cut_to (P := Try.prog) 112 128 .i64 Try.underlying112 hi0 A6 h2.length c6 (m : Int) (by omega) (by omega) hco
    have hcut2 := cut_from (P := Try.prog) 112 128 .i64 Try.underlying112 hi0 13 hs0 A6 h2.length c6 (m : Int) (by omega) (by omega)
    rw [Int.toNat_natCast] at hcut1
    rw [Int.toNat_natCast, ← hAd] at hcut2
    clear hAd hdr hEo HR3 hi0 hz0 hs0 hb0
    generalize w6.heap.size = gE at HX
    have HHX := HX
    have BS3 := BS
    go_cut [19] (fun v19 wc => Hid (Grow w3 wc w.heap.size v19 (insAt h2 m e)))
    case first =>
      refine start_ (n := 13) (S := fun w' => w'.cell? ⟨gE, 0, none⟩ = some (.int .i64 e.f0) ∧ w'.cell? ⟨gE, 1, none⟩ = some (.int .u8 e.f1.f0) ∧ w'.cell? ⟨gE, 2, none⟩ = some (.int .i64 e.f1.f1) ∧ w'.cell? ⟨gE, 3, none⟩ = some (.int .i64 e.f1.f2) ∧ w'.cell? ⟨gE, 4, none⟩ = some (.int .i64 e.f1.f3) ∧ w'.cell? ⟨gE, 5, none⟩ = some (.int .i64 e.f2) ∧ w'.cell? ⟨gE, 6, none⟩ = some (.int .i64 e.f3) ∧ w'.cell? ⟨gE, 7, none⟩ = some (.int .i64 e.f4.f0) ∧ w'.cell? ⟨gE, 8, none⟩ = some (.bool e.f4.f1) ∧ w'.cell? ⟨gE, 9, none⟩ = some (.int .i64 e.f4.f2) ∧ w'.cell? ⟨gE, 10, none⟩ = some (.int .i64 e.f4.f3) ∧ w'.cell? ⟨gE, 11, none⟩ = some (.slice none e.f4.f4.length 0) ∧ w'.cell? ⟨gE, 12, none⟩ = some (.bool e.f4.f5)) (ds := []) #[false, false, false, false, false, false, false, false, false, false, false, false, false] (by kernel_rfl) rfl rfl (ev_cells HX.out) (fun hHeld => ?_)
      have hB0 : Hid (Below w3.heap.size w3 w3.drew) := Lib.hid (below_drew (Below.refl _ _))
      generalize w3.drew = w4 at hB0 hHeld ⊢
      refine pure_ (i := 1) (N := some 49) (v := ?_) (a' := ?_) #[false, true, false, false, false, false, false, false, false, false, false, false, false] rfl rfl (by kernel_rfl) (fun _ _ _ h => h) (Or.inl ⟨by rfl, ?_⟩) ?_ ?_
      rotate_left
      · intro w'
        go_simp
        with_reducible rfl
      rotate_left
      · simp only [Act.put, List.setIfInBounds_toArray, List.set_cons_zero, List.set_cons_succ, i64_w, i32_w]
        rfl
      refine pure_ (i := 2) (N := some 50) (v := ?_) (a' := ?_) #[false, true, true, false, false, false, false, false, false, false, false, false, false] rfl rfl (by kernel_rfl) (fun _ _ _ h => h) (Or.inl ⟨by rfl, ?_⟩) ?_ ?_
      rotate_left
      · intro w'
        go_simp
        with_reducible rfl
      rotate_left
      · simp only [Act.put, List.setIfInBounds_toArray, List.set_cons_zero, List.set_cons_succ, i64_w, i32_w]
        rfl
      refine pure_ (i := 3) (N := some 51) (v := ?_) (a' := ?_) #[false, true, true, true, false, false, false, false, false, false, false, false, false] rfl rfl (by kernel_rfl) (fun _ _ _ h => h) (Or.inl ⟨by rfl, ?_⟩) ?_ ?_
      rotate_left
      · intro w'
        go_simp
        with_reducible rfl
      rotate_left
      · simp only [Act.put, List.setIfInBounds_toArray, List.set_cons_zero, List.set_cons_succ, i64_w, i32_w]
        rfl
      refine pure_ (i := 8) (N := some 56) (v := ?_) (a' := ?_) #[false, true, true, true, false, false, false, false, true, false, false, false, false] rfl rfl (by kernel_rfl) (fun _ _ _ h => h) (Or.inl ⟨by rfl, ?_⟩) ?_ ?_
      rotate_left
      · intro w'
        go_simp
        with_reducible rfl
      rotate_left
      · simp only [Act.put, List.setIfInBounds_toArray, List.set_cons_zero, List.set_cons_succ, i64_w, i32_w]
        rfl
      refine pure_ (i := 9) (N := some 57) (v := ?_) (a' := ?_) #[false, true, true, true, false, false, false, false, true, true, false, false, false] rfl rfl (by kernel_rfl) (fun _ _ _ h => h) (Or.inl ⟨by rfl, ?_⟩) ?_ ?_
      rotate_left
      · intro w'
        go_simp
        with_reducible rfl
      rotate_left
      · simp only [Act.put, List.setIfInBounds_toArray, List.set_cons_zero, List.set_cons_succ, i64_w, i32_w]
        rfl
      refine pure_ (i := 10) (N := some 58) (v := ?_) (a' := ?_) #[false, true, true, true, false, false, false, false, true, true, true, false, false] rfl rfl (by kernel_rfl) (fun _ _ _ h => h) (Or.inl ⟨by rfl, ?_⟩) ?_ ?_
      rotate_left
      · intro w'
        go_simp
        with_reducible rfl
      rotate_left
      · simp only [Act.put, List.setIfInBounds_toArray, List.set_cons_zero, List.set_cons_succ, i64_w, i32_w]
        rfl
      refine take_ (i := 5) (N := some 53) (v := ?_) (a' := ?_) #[false, true, true, true, false, true, false, false, true, true, true, false, false] rfl rfl (by kernel_rfl) (fun _ _ _ h => h) (Or.inl ⟨by rfl, ?_⟩) hHeld ?_ ?_
      rotate_left
      · rintro w' ⟨s0, s1, s2, s3, s4, s5, s6, s7, s8, s9, s10, s11, s12⟩
        go_simp
        with_reducible rfl
      rotate_left
      · simp only [Act.put, List.setIfInBounds_toArray, List.set_cons_zero, List.set_cons_succ, i64_w, i32_w]
        rfl
      refine two_ (i := 0) (j := 6) (Ni := some 48) (Nj := some 54) #[true, true, true, true, false, true, false, false, true, true, true, false, false] #[false, true, true, true, false, true, true, false, true, true, true, false, false] rfl rfl rfl rfl (by kernel_rfl) (by decide) (by decide) (fun K hK => ?_) (fun K hK => ?_)
      · skip
        refine value_ (w1 := ?_) (v := ?_) (by rfl) rfl ?_ ?_
        rotate_left 2
        · go_simp
          constructor
          · rfl
          · rfl
        obtain ⟨w5, hw1, hB1, hG1⟩ : ∃ W, W = w4.alloc (.cells #[] 128) ∧ Hid (Below w3.heap.size w3 W) ∧ Hid (Grow w3 W w.heap.size (.slice (some ⟨w4.heap.size, 0, none⟩) 0 0) []) := ⟨_, rfl, Lib.hid (below_step hB0.out (below_alloc (Below.refl _ _) _)), Lib.hid (Grow.nil (B := w.heap.size) (w0 := w3) hBw hB0.out)⟩
        show K _ (w4.alloc (.cells #[] 128))
        rw [← hw1]
        clear hw1
        refine hK.out _ _ (ev_cells (blk_below HX.out hB1.out)) (fun hHeld => ?_)
        clear hK K
        refine norm_ (a' := ?_) ?_ ?_
        rotate_left
        · show Act.put _ (some 48) _ = _
          simp only [Act.put, List.setIfInBounds_toArray, List.set_cons_zero, List.set_cons_succ, i64_w, i32_w]
          rfl
        refine two_ (i := 4) (j := 6) (Ni := some 52) (Nj := some 54) #[true, true, true, true, true, true, false, false, true, true, true, false, false] #[true, true, true, true, false, true, true, false, true, true, true, false, false] rfl rfl rfl rfl (by kernel_rfl) (by decide) (by decide) (fun K hK => ?_) (fun K hK => ?_)
        · skip
          refine ev_rows_step (w0 := w3) (B := w.heap.size) hBw (by rfl) (.tmp 48) (.tmp 51) rfl (.slice (some ⟨w4.heap.size, 0, none⟩) 0 0) [] (h2.take m) A6 (m) (c6) rfl rfl hG1.out (EvRows.at0 HT.out hB1.out) (by simp; omega) ?_
          intro v52 w6 hg hgr
          have hG2 := Lib.hid hg
          have hB2 := Lib.hid hg.b
          clear hg hgr
          refine hK.out _ _ (ev_cells (blk_below HX.out hB2.out)) (fun hHeld => ?_)
          clear hK K
          refine norm_ (a' := ?_) ?_ ?_
          rotate_left
          · show Act.put _ (some 52) _ = _
            simp only [Act.put, List.setIfInBounds_toArray, List.set_cons_zero, List.set_cons_succ, i64_w, i32_w]
            rfl
          refine one_ (i := 6) (N := some 54) #[true, true, true, true, true, true, true, false, true, true, true, false, false] rfl rfl (by kernel_rfl) (by decide) (fun K hK => ?_)
          refine value_ (w1 := ?_) (v := ?_) (by rfl) rfl ?_ ?_
          rotate_left 2
          · go_simp
            constructor
            · rfl
            · rfl
          have hN3 : Hid (some w6.heap.size ≠ (v52 : Value).ownBlock) := Lib.hid (fun h => by have h1 := Kd.R_lt hG2.out.r _ h.symm; omega)
          obtain ⟨w7, hw3, hB3, hG3, hX3⟩ : ∃ W, W = w6.alloc (.cells (evA e none 0) 128) ∧ Hid (Below w3.heap.size w3 W) ∧ Hid (Grow w3 W w.heap.size v52 ([] ++ h2.take m)) ∧ Hid (W.heap[w6.heap.size]? = some (.cells (evA e none 0) 128 (0, 0))) := ⟨_, rfl, Lib.hid (below_step hB2.out (below_alloc (Below.refl _ _) _)), Lib.hid (hG2.out.below (below_alloc (Below.refl _ _) _)), Lib.hid (heap_alloc_new _ _)⟩
          show K _ (w6.alloc (.cells (evA e none 0) 128))
          rw [← hw3]
          clear hw3
          refine hK.out _ _ (ev_cells (blk_below HX.out hB3.out)) (fun hHeld => ?_)
          clear hK K
          refine norm_ (a' := ?_) ?_ ?_
          rotate_left
          · show Act.put _ (some 54) _ = _
            simp only [Act.put, List.setIfInBounds_toArray, List.set_cons_zero, List.set_cons_succ, i64_w, i32_w]
            rfl
          refine one_ (i := 7) (N := some 55) #[true, true, true, true, true, true, true, true, true, true, true, false, false] rfl rfl (by kernel_rfl) (by decide) (fun K hK => ?_)
          refine ev_rows_step (w0 := w3) (B := w.heap.size) hBw (by rfl) (.tmp 52) (.tmp 54) rfl v52 ([] ++ h2.take m) ([e]) _ (1) (1) rfl rfl hG3.out (EvRows.one (evM_at HM.out hB3.out) hX3.out) (by simp; omega) ?_
          intro v55 w8 hg hgr
          have hG4 := Lib.hid hg
          have hB4 := Lib.hid hg.b
          clear hg hgr
          refine hK.out _ _ (ev_cells (blk_below HX.out hB4.out)) (fun hHeld => ?_)
          clear hK K
          refine norm_ (a' := ?_) ?_ ?_
          rotate_left
          · show Act.put _ (some 55) _ = _
            simp only [Act.put, List.setIfInBounds_toArray, List.set_cons_zero, List.set_cons_succ, i64_w, i32_w]
            rfl
          refine one_ (i := 11) (N := some 59) #[true, true, true, true, true, true, true, true, true, true, true, true, false] rfl rfl (by kernel_rfl) (by decide) (fun K hK => ?_)
          refine ev_rows_step (w0 := w3) (B := w.heap.size) hBw (by rfl) (.tmp 55) (.tmp 58) rfl v55 (([] ++ h2.take m) ++ [e]) (h2.drop m) Ad (h2.length - m) (c6 - m) rfl rfl hG4.out (EvRows.at0 HDr.out hB4.out) (by simp; omega) ?_
          intro v59 w9 hg hgr
          have hG5 := Lib.hid hg
          have hB5 := Lib.hid hg.b
          clear hg hgr
          refine hK.out _ _ (ev_cells (blk_below HX.out hB5.out)) (fun hHeld => ?_)
          clear hK K
          refine norm_ (a' := ?_) ?_ ?_
          rotate_left
          · show Act.put _ (some 59) _ = _
            simp only [Act.put, List.setIfInBounds_toArray, List.set_cons_zero, List.set_cons_succ, i64_w, i32_w]
            rfl
          refine pure_ (i := 12) (N := some 19) (v := ?_) (a' := ?_) #[true, true, true, true, true, true, true, true, true, true, true, true, true] rfl rfl (by kernel_rfl) (fun _ _ _ h => h) (Or.inl ⟨by rfl, ?_⟩) ?_ ?_
          rotate_left
          · intro w'
            go_simp
            with_reducible rfl
          rotate_left
          · simp only [Act.put, List.setIfInBounds_toArray, List.set_cons_zero, List.set_cons_succ, i64_w, i32_w]
            rfl
          refine done_ (by kernel_rfl) ?_
          go_wp2_with fail
          go_meet
          case rel => exact Lib.hid ⟨hG5.out.b, by have h := hG5.out.r; simpa [insAt] using h, hG5.out.o⟩
        · skip
          refine value_ (w1 := ?_) (v := ?_) (by rfl) rfl ?_ ?_
          rotate_left 2
          · go_simp
            constructor
            · rfl
            · rfl
          have hN6 : Hid (some w5.heap.size ≠ ((.slice (some ⟨w4.heap.size, 0, none⟩) 0 0) : Value).ownBlock) := Lib.hid (fun h => by have h1 := Kd.R_lt hG1.out.r _ h.symm; omega)
          obtain ⟨w10, hw6, hB6, hG6, hX6⟩ : ∃ W, W = w5.alloc (.cells (evA e none 0) 128) ∧ Hid (Below w3.heap.size w3 W) ∧ Hid (Grow w3 W w.heap.size (.slice (some ⟨w4.heap.size, 0, none⟩) 0 0) []) ∧ Hid (W.heap[w5.heap.size]? = some (.cells (evA e none 0) 128 (0, 0))) := ⟨_, rfl, Lib.hid (below_step hB1.out (below_alloc (Below.refl _ _) _)), Lib.hid (hG1.out.below (below_alloc (Below.refl _ _) _)), Lib.hid (heap_alloc_new _ _)⟩
          show K _ (w5.alloc (.cells (evA e none 0) 128))
          rw [← hw6]
          clear hw6
          refine hK.out _ _ (ev_cells (blk_below HX.out hB6.out)) (fun hHeld => ?_)
          clear hK K
          refine norm_ (a' := ?_) ?_ ?_
          rotate_left
          · show Act.put _ (some 54) _ = _
            simp only [Act.put, List.setIfInBounds_toArray, List.set_cons_zero, List.set_cons_succ, i64_w, i32_w]
            rfl
          refine one_ (i := 4) (N := some 52) #[true, true, true, true, true, true, true, false, true, true, true, false, false] rfl rfl (by kernel_rfl) (by decide) (fun K hK => ?_)
          refine ev_rows_step (w0 := w3) (B := w.heap.size) hBw (by rfl) (.tmp 48) (.tmp 51) rfl (.slice (some ⟨w4.heap.size, 0, none⟩) 0 0) [] (h2.take m) A6 (m) (c6) rfl rfl hG6.out (EvRows.at0 HT.out hB6.out) (by simp; omega) ?_
          intro v52 w11 hg hgr
          have hG7 := Lib.hid hg
          have hB7 := Lib.hid hg.b
          have hX7 := Lib.hid (hG6.out.keep hgr hX6.out hN6.out)
          clear hg hgr
          refine hK.out _ _ (ev_cells (blk_below HX.out hB7.out)) (fun hHeld => ?_)
          clear hK K
          refine norm_ (a' := ?_) ?_ ?_
          rotate_left
          · show Act.put _ (some 52) _ = _
            simp only [Act.put, List.setIfInBounds_toArray, List.set_cons_zero, List.set_cons_succ, i64_w, i32_w]
            rfl
          refine one_ (i := 7) (N := some 55) #[true, true, true, true, true, true, true, true, true, true, true, false, false] rfl rfl (by kernel_rfl) (by decide) (fun K hK => ?_)
          refine ev_rows_step (w0 := w3) (B := w.heap.size) hBw (by rfl) (.tmp 52) (.tmp 54) rfl v52 ([] ++ h2.take m) ([e]) _ (1) (1) rfl rfl hG7.out (EvRows.one (evM_at HM.out hB7.out) hX7.out) (by simp; omega) ?_
          intro v55 w12 hg hgr
          have hG8 := Lib.hid hg
          have hB8 := Lib.hid hg.b
          clear hg hgr
          refine hK.out _ _ (ev_cells (blk_below HX.out hB8.out)) (fun hHeld => ?_)
          clear hK K
          refine norm_ (a' := ?_) ?_ ?_
          rotate_left
          · show Act.put _ (some 55) _ = _
            simp only [Act.put, List.setIfInBounds_toArray, List.set_cons_zero, List.set_cons_succ, i64_w, i32_w]
            rfl
          refine one_ (i := 11) (N := some 59) #[true, true, true, true, true, true, true, true, true, true, true, true, false] rfl rfl (by kernel_rfl) (by decide) (fun K hK => ?_)
          refine ev_rows_step (w0 := w3) (B := w.heap.size) hBw (by rfl) (.tmp 55) (.tmp 58) rfl v55 (([] ++ h2.take m) ++ [e]) (h2.drop m) Ad (h2.length - m) (c6 - m) rfl rfl hG8.out (EvRows.at0 HDr.out hB8.out) (by simp; omega) ?_
          intro v59 w13 hg hgr
          have hG9 := Lib.hid hg
          have hB9 := Lib.hid hg.b
          clear hg hgr
          refine hK.out _ _ (ev_cells (blk_below HX.out hB9.out)) (fun hHeld => ?_)
          clear hK K
          refine norm_ (a' := ?_) ?_ ?_
          rotate_left
          · show Act.put _ (some 59) _ = _
            simp only [Act.put, List.setIfInBounds_toArray, List.set_cons_zero, List.set_cons_succ, i64_w, i32_w]
            rfl
          refine pure_ (i := 12) (N := some 19) (v := ?_) (a' := ?_) #[true, true, true, true, true, true, true, true, true, true, true, true, true] rfl rfl (by kernel_rfl) (fun _ _ _ h => h) (Or.inl ⟨by rfl, ?_⟩) ?_ ?_
          rotate_left
          · intro w'
            go_simp
            with_reducible rfl
          rotate_left
          · simp only [Act.put, List.setIfInBounds_toArray, List.set_cons_zero, List.set_cons_succ, i64_w, i32_w]
            rfl
          refine done_ (by kernel_rfl) ?_
          go_wp2_with fail
          go_meet
          case rel => exact Lib.hid ⟨hG9.out.b, by have h := hG9.out.r; simpa [insAt] using h, hG9.out.o⟩
      · skip
        refine value_ (w1 := ?_) (v := ?_) (by rfl) rfl ?_ ?_
        rotate_left 2
        · go_simp
          constructor
          · rfl
          · rfl
        obtain ⟨w14, hw10, hB10, hX10⟩ : ∃ W, W = w4.alloc (.cells (evA e none 0) 128) ∧ Hid (Below w3.heap.size w3 W) ∧ Hid (W.heap[w4.heap.size]? = some (.cells (evA e none 0) 128 (0, 0))) := ⟨_, rfl, Lib.hid (below_step hB0.out (below_alloc (Below.refl _ _) _)), Lib.hid (heap_alloc_new _ _)⟩
        show K _ (w4.alloc (.cells (evA e none 0) 128))
        rw [← hw10]
        clear hw10
        refine hK.out _ _ (ev_cells (blk_below HX.out hB10.out)) (fun hHeld => ?_)
        clear hK K
        refine norm_ (a' := ?_) ?_ ?_
        rotate_left
        · show Act.put _ (some 54) _ = _
          simp only [Act.put, List.setIfInBounds_toArray, List.set_cons_zero, List.set_cons_succ, i64_w, i32_w]
          rfl
        refine one_ (i := 0) (N := some 48) #[true, true, true, true, false, true, true, false, true, true, true, false, false] rfl rfl (by kernel_rfl) (by decide) (fun K hK => ?_)
        refine value_ (w1 := ?_) (v := ?_) (by rfl) rfl ?_ ?_
        rotate_left 2
        · go_simp
          constructor
          · rfl
          · rfl
        have hN11 : Hid (some w4.heap.size ≠ (Value.slice (some ⟨w14.heap.size, 0, none⟩) 0 0).ownBlock) := Lib.hid (fun h => by have h1 := (Array.getElem?_eq_some_iff.1 hX10.out).1; have h2 : w14.heap.size = w4.heap.size := (by simpa [Value.ownBlock] using h.symm); omega)
        obtain ⟨w15, hw11, hB11, hG11, hX11⟩ : ∃ W, W = w14.alloc (.cells #[] 128) ∧ Hid (Below w3.heap.size w3 W) ∧ Hid (Grow w3 W w.heap.size (.slice (some ⟨w14.heap.size, 0, none⟩) 0 0) []) ∧ Hid (W.heap[w4.heap.size]? = some (.cells (evA e none 0) 128 (0, 0))) := ⟨_, rfl, Lib.hid (below_step hB10.out (below_alloc (Below.refl _ _) _)), Lib.hid (Grow.nil (B := w.heap.size) (w0 := w3) hBw hB10.out), Lib.hid (blk_alloc hX10.out _)⟩
        show K _ (w14.alloc (.cells #[] 128))
        rw [← hw11]
        clear hw11
        refine hK.out _ _ (ev_cells (blk_below HX.out hB11.out)) (fun hHeld => ?_)
        clear hK K
        refine norm_ (a' := ?_) ?_ ?_
        rotate_left
        · show Act.put _ (some 48) _ = _
          simp only [Act.put, List.setIfInBounds_toArray, List.set_cons_zero, List.set_cons_succ, i64_w, i32_w]
          rfl
        refine one_ (i := 4) (N := some 52) #[true, true, true, true, true, true, true, false, true, true, true, false, false] rfl rfl (by kernel_rfl) (by decide) (fun K hK => ?_)
        refine ev_rows_step (w0 := w3) (B := w.heap.size) hBw (by rfl) (.tmp 48) (.tmp 51) rfl (.slice (some ⟨w14.heap.size, 0, none⟩) 0 0) [] (h2.take m) A6 (m) (c6) rfl rfl hG11.out (EvRows.at0 HT.out hB11.out) (by simp; omega) ?_
        intro v52 w16 hg hgr
        have hG12 := Lib.hid hg
        have hB12 := Lib.hid hg.b
        have hX12 := Lib.hid (hG11.out.keep hgr hX11.out hN11.out)
        clear hg hgr
        refine hK.out _ _ (ev_cells (blk_below HX.out hB12.out)) (fun hHeld => ?_)
        clear hK K
        refine norm_ (a' := ?_) ?_ ?_
        rotate_left
        · show Act.put _ (some 52) _ = _
          simp only [Act.put, List.setIfInBounds_toArray, List.set_cons_zero, List.set_cons_succ, i64_w, i32_w]
          rfl
        refine one_ (i := 7) (N := some 55) #[true, true, true, true, true, true, true, true, true, true, true, false, false] rfl rfl (by kernel_rfl) (by decide) (fun K hK => ?_)
        refine ev_rows_step (w0 := w3) (B := w.heap.size) hBw (by rfl) (.tmp 52) (.tmp 54) rfl v52 ([] ++ h2.take m) ([e]) _ (1) (1) rfl rfl hG12.out (EvRows.one (evM_at HM.out hB12.out) hX12.out) (by simp; omega) ?_
        intro v55 w17 hg hgr
        have hG13 := Lib.hid hg
        have hB13 := Lib.hid hg.b
        clear hg hgr
        refine hK.out _ _ (ev_cells (blk_below HX.out hB13.out)) (fun hHeld => ?_)
        clear hK K
        refine norm_ (a' := ?_) ?_ ?_
        rotate_left
        · show Act.put _ (some 55) _ = _
          simp only [Act.put, List.setIfInBounds_toArray, List.set_cons_zero, List.set_cons_succ, i64_w, i32_w]
          rfl
        refine one_ (i := 11) (N := some 59) #[true, true, true, true, true, true, true, true, true, true, true, true, false] rfl rfl (by kernel_rfl) (by decide) (fun K hK => ?_)
        refine ev_rows_step (w0 := w3) (B := w.heap.size) hBw (by rfl) (.tmp 55) (.tmp 58) rfl v55 (([] ++ h2.take m) ++ [e]) (h2.drop m) Ad (h2.length - m) (c6 - m) rfl rfl hG13.out (EvRows.at0 HDr.out hB13.out) (by simp; omega) ?_
        intro v59 w18 hg hgr
        have hG14 := Lib.hid hg
        have hB14 := Lib.hid hg.b
        clear hg hgr
        refine hK.out _ _ (ev_cells (blk_below HX.out hB14.out)) (fun hHeld => ?_)
        clear hK K
        refine norm_ (a' := ?_) ?_ ?_
        rotate_left
        · show Act.put _ (some 59) _ = _
          simp only [Act.put, List.setIfInBounds_toArray, List.set_cons_zero, List.set_cons_succ, i64_w, i32_w]
          rfl
        refine pure_ (i := 12) (N := some 19) (v := ?_) (a' := ?_) #[true, true, true, true, true, true, true, true, true, true, true, true, true] rfl rfl (by kernel_rfl) (fun _ _ _ h => h) (Or.inl ⟨by rfl, ?_⟩) ?_ ?_
        rotate_left
        · intro w'
          go_simp
          with_reducible rfl
        rotate_left
        · simp only [Act.put, List.setIfInBounds_toArray, List.set_cons_zero, List.set_cons_succ, i64_w, i32_w]
          rfl
        refine done_ (by kernel_rfl) ?_
        go_wp2_with fail
        go_meet
        case rel => exact Lib.hid ⟨hG14.out.b, by have h := hG14.out.r; simpa [insAt] using h, hG14.out.o⟩
    case rest =>
      have HG8 := hcut
      rw [← HHm.out] at HG8
      clear hcut hcut1 hcut2
      obtain ⟨A9, c9, e9⟩ := Kd.R_slice HG8.out.r
      subst e9
      have HX9 := Lib.hid ((HG8.out.b.block gE (Array.getElem?_eq_some_iff.1 HHX.out).1).trans HHX.out)
      have BS9 := Lib.hid (below_step BS3.out HG8.out.b)
      have HB9 := Lib.hid (below_step HB6.out BS9.out)
      have HG9 := HG8
      obtain ⟨x0, x1, x2, x3, x4, x5, x6, x7, x8, x9, x10, x11, x12⟩ := ev_cells HX9.out
      clear HX BS HHX BS3
      go_wp2_with (first | (go_at_call 95; refine (evNone e none 0 _).mono ?_; rintro e_ w11 ⟨rfl, hb⟩; rw [HEn.out.1]; have HB11 := Lib.hid (below_step HB9.out hb); have HS11 := Lib.hid (below_step BS9.out hb); have HG11 := Lib.hid (HG9.out.below hb); have y11 := ev_cells (blk_below HX9.out hb); have HX11 := Lib.hid (blk_below HX9.out hb); obtain ⟨y0, y1, y2, y3, y4, y5, y6, y7, y8, y9, y10, y11, y12⟩ := y11; clear hb) | (go_at_call 96; refine (evAns e none 0 _).mono ?_; rintro e_ w12 ⟨rfl, hb⟩; rw [HEn.out.2]; have HB12 := Lib.hid (below_step HB11.out hb); have HS12 := Lib.hid (below_step HS11.out hb); have HG12 := Lib.hid (HG11.out.below hb); clear hb) | (go_at_call 94; first | (with_reducible refine Calls.mono (Linear.calls k Al cl first A9 c9 hm_ la _ (Kd.C_below CL6.out.2 HS12.out) CL6.out.1 (Kd.R_reads' HG12.out.r).2.2 (Kd.R_reads' HG12.out.r).2.1 HLa.out) ?_; rintro e_ w13 ⟨rfl, hb⟩; have HB13 := Lib.hid (below_step HB12.out hb); have HS13 := Lib.hid (below_step HS12.out hb); clear hb) | (with_reducible refine Calls.mono (Linear.calls k Al cl first A6 c6 h2 lb _ (Kd.C_below CL6.out.2 HS13.out) CL6.out.1 (Kd.C_below (Kd.R_reads' HR6.out).2.2 HS13.out) (Kd.R_reads' HR6.out).2.1 HLb.out) ?_; rintro e_ w14 ⟨rfl, hb⟩; have HB14 := Lib.hid (below_step HB13.out hb); clear hb)))
      go_ret
      exact ⟨by first | rfl | simp, HB14.out⟩
end Go.Proofs.Ytkoiffkonjpoiaa.Q
