/- The search for an order, by hand: what it does in memory, told by a plain search (YtkoiffkonjpoiaaYSearch); under the contract's own conditions alone. -/
import Derived.Test.YtkoiffkonjpoiaaQS4
namespace Go.Proofs.Ytkoiffkonjpoiaa.Q
open Go.RowKit Go.Proofs.YtkoiffkonjpoiaaW.PrintWords Go.Proofs.YtkoiffkonjpoiaaW.PrintLast Go.Proofs.YtkoiffkonjpoiaaW.PrintMore Go.Proofs.YtkoiffkonjpoiaaX
attribute [local go_sem] max2_int min2_int max_two min_two max_three min_three max_four min_four
set_option linter.unusedVariables false
set_option linter.unusedSimpArgs false
set_option maxHeartbeats 8000000 in
set_option maxRecDepth 100000 in
theorem find.calls (k : Nat) (l : List S128) (w0 : World) (A0 : Option Addr) (c0 : Nat) (hr0 : Kd.C k128 w0 A0 l.length l) (hc0 : l.length ≤ c0) (hn : l.length ≤ 62) (g mb : Nat) (hg0 : w0.heap.size ≤ g) (hm0 : w0.heap.size ≤ mb) (hne : g ≠ mb) :
    ∀ (f D : Nat) (p : List S40) (seen : List (Nat × List UInt8)) (so : List Nat) (r : Bool × List (Nat × List UInt8) × List Nat), find.f k l f D p seen so = some r →
    ∀ (P0 okp : Nat → Prop) (B : Nat) (A : Option Addr) (c : Nat) (vo : Value) (w : World), D < 18446744073709551616 → p.length < 8796093022208 → so.length + f < 8796093022208 → Below w0.heap.size w0 w →
    w.heap[g]? = some (.cells (srA A0 l.length c0 (allM l) mb vo) 155 (0, 0)) → SeenAt w mb seen → Kd.R (Kd.int .i64) 3 w w0.heap.size P0 vo (toI so) → ¬ P0 g → ¬ P0 mb →
    Kd.V k40 40 w B okp (.slice A p.length c) p → (∀ b, okp b → ¬ P0 b ∧ b ≠ g ∧ b ≠ mb) →
    Calls Try.prog 120 #[.pointer (some ⟨g, 0, none⟩), .int .u64 (D : Int), .slice A p.length c] w fun e w' => e = .returned (.bool r.1) ∧ ∃ vo', Below w0.heap.size w0 w' ∧ Kept w w' (fun b => P0 b ∨ b = g ∨ b = mb) ∧
      w'.heap[g]? = some (.cells (srA A0 l.length c0 (allM l) mb vo') 155 (0, 0)) ∧ SeenAt w' mb r.2.1 ∧ Kd.R (Kd.int .i64) 3 w' w0.heap.size (fun b => P0 b ∨ w.heap.size ≤ b) vo' (toI r.2.2) := by
  have HR0 := Lib.hid hr0
  have HC0 := Lib.hid hc0
  have hu128 := Try.underlying128
  have hu155 := Try.underlying155
  have hu172 := Try.underlying172
  have hu84 := Try.underlying84
  have hu78 := Try.underlying78
  have info3 : (Try.prog.info? 3).map (fun i => (i.zero, i.size, i.bytes)) = some (some (.int .i64 0), 1, 8) := by kernel_rfl
  clear hr0 hc0
  intro f
  induction f with
  | zero => intro D p seen so r h; cases h
  | succ f ih =>
    intro D p seen so r h P0 okp B A c vo w hD hp hso hB hX hS hO hPg hPm hV hok
    have HB := Lib.hid hB
    have HX := Lib.hid hX
    have HS := Lib.hid hS
    have HO := Lib.hid hO
    have HV : Hid (Kd.V k40 40 w B (fun b => okp b ∧ b < w.heap.size) (.slice A p.length c) p) := Lib.hid (Kd.V_map hV (fun A hf => Kd.F_bound hf))
    have IH := Lib.hid ih
    simp only [find.f, Srch.find] at h
    have H := Lib.hid h
    clear h hB hX hS hO hV ih
    obtain ⟨okq, hokq⟩ : ∃ okq, okq = fun b => okp b ∧ b < w.heap.size := ⟨_, rfl⟩
    have hok2 : ∀ b, okq b → ¬ P0 b ∧ b ≠ g ∧ b ≠ mb ∧ b < w.heap.size := by
      rw [hokq]
      exact fun b hb => ⟨(hok b hb.1).1, (hok b hb.1).2.1, (hok b hb.1).2.2, hb.2⟩
    rw [← hokq] at HV
    clear hokq hok
    have hok : ∀ b, okq b → ¬ P0 b ∧ b ≠ g ∧ b ≠ mb := fun b hb => ⟨(hok2 b hb).1, (hok2 b hb).2.1, (hok2 b hb).2.2.1⟩
    have HF : Hid (SF w0 w g mb A0 l.length c0 (allM l) P0 okq B (.slice A p.length c) p seen vo so w) := Lib.hid ⟨HB.out, ⟨Nat.le_refl _, fun _ _ _ => rfl⟩, HX.out, HS.out, Kd.R_mono HO.out (fun _ h => .inl h), HV.out⟩
    have hsb := below_size HB.out
    have hmw := seen_lt HS.out
    have hgw : g < w.heap.size := (Array.getElem?_eq_some_iff.1 HX.out).1
    clear HB HX HS HO HV
    have hA := allIn_bits k l D hD hn
    by_cases hall : Srch.allIn (stOf k l) D = true
    · have h := H.out
      rw [if_pos hall] at h
      obtain rfl := Option.some.inj h
      clear h H
      rw [hall] at hA
      go_enter Try.func120, Try.ntmps120
      go_upto_region 1 with (fail)
      refine wp_scope_straight (wp_seq_k (fun K1 hK1 => wp_seq_k (fun K2 hK2 => ?_)))
      refine drawn_all (by kernel_rfl) ?_
      intro W hW hBW
      have HF1 := Lib.hid (HF.out.below hBW)
      obtain ⟨g0, g1, g2, g3, g3f⟩ := HF1.out.cells
      repeat still_step
      refine wpStill_nil ?_
      clear hW hBW
      go_wp2
      refine noGoto_ret ?_
      go_ret
      exact ⟨rfl, vo, HF1.out.b, HF1.out.k, HF1.out.x, HF1.out.s, HF1.out.o⟩
    · have hall' : Srch.allIn (stOf k l) D = false := by simpa using hall
      rw [hall'] at hA
      go_enter Try.func120, Try.ntmps120
      go_upto_region 1 with (fail)
      refine wp_scope_straight (wp_seq_k (fun K1 hK1 => wp_seq_k (fun K2 hK2 => ?_)))
      refine drawn_all (by kernel_rfl) ?_
      intro W hW hBW
      have HF1 := Lib.hid (HF.out.below hBW)
      obtain ⟨g0, g1, g2, g3, g3f⟩ := HF1.out.cells
      repeat still_step
      refine wpStill_nil ?_
      clear hW hBW
      go_upto_region 4 with (go_at_call 133; refine Calls.mono (text.calls A c p _ (Kd.V_reads' HF1.out.v).2.2 (Kd.V_reads' HF1.out.v).2.1 hp) ?_; rintro e w2 ⟨rfl, hb⟩; have HF2 := Lib.hid (HF1.out.below hb); clear hb)
      refine find.settle (p := fun W => Code.wp _ _ _ _ W) (R := fun W => Hid (SF w0 w g mb A0 l.length c0 (allM l) P0 okq B (.slice A p.length c) p seen vo so W) ∧ Hid (W.heap[w2.heap.size]? = some (.cells #[.int .u64 (D : Int), .string (txt p)] 172 (0, 0)))) ⟨Lib.hid (HF2.out.below (below_alloc (Below.refl _ _) _)), Lib.hid (heap_alloc_new _ _)⟩ ?_
      rintro w3 ⟨HF3, HZ⟩
      clear HF1 HF2 g0 g1 g2 g3 g3f
      have hky : okKey (D, txtU p) := ⟨hD, by show (txtU p).length ≤ maxLen; unfold txtU; rw [List.length_map, textL_length]; unfold maxLen; omega⟩
      refine drawn_tail 5 (by kernel_rfl) ?_
      intro W hW hBW
      have HF4 := Lib.hid (HF3.out.below hBW)
      have HZ4 := Lib.hid (blk_below HZ.out hBW)
      obtain ⟨g0, g1, g2, g3, g3f⟩ := HF4.out.cells
      have z0 : W.cell? ⟨w2.heap.size, 0, none⟩ = some (.int .u64 (D : Int)) := (blk_cell HZ4.out 0).trans rfl
      have z1 : W.cell? ⟨w2.heap.size, 1, none⟩ = some (.string (txt p)) := (blk_cell HZ4.out 1).trans rfl
      clear hW hBW HF3 HZ
      simp only [List.take_succ_cons, List.take_zero, List.drop_succ_cons, List.drop_zero]
      repeat still_step
      refine wpStill_nil ?_
      by_cases hmem : (D, txtU p) ∈ seen
      · have h := H.out
        rw [if_neg hall, if_pos hmem] at h
        obtain rfl := Option.some.inj h
        clear h H
        go_wp2_with (at_lookup; refine wpList_seen_look _ rfl _ _ rfl mb seen rfl HF4.out.s (D, txtU p) rfl hky ?_; rw [if_pos hmem])
        refine noGoto_ret ?_
        go_ret
        exact ⟨rfl, vo, HF4.out.b, HF4.out.k, HF4.out.x, HF4.out.s, HF4.out.o⟩
      · go_upto_region 6 with (at_lookup; refine wpList_seen_look _ rfl _ _ rfl mb seen rfl HF4.out.s (D, txtU p) rfl hky ?_; rw [if_neg hmem])
        refine drawn_tail 5 (by kernel_rfl) ?_
        intro W5 hW hBW
        have HF5 := Lib.hid (HF4.out.below hBW)
        have HZ5 := Lib.hid (blk_below HZ4.out hBW)
        clear g0 g1 g2 g3 g3f z0 z1
        obtain ⟨g0, g1, g2, g3, g3f⟩ := HF5.out.cells
        have z0 : W5.cell? ⟨w2.heap.size, 0, none⟩ = some (.int .u64 (D : Int)) := (blk_cell HZ5.out 0).trans rfl
        have z1 : W5.cell? ⟨w2.heap.size, 1, none⟩ = some (.string (txt p)) := (blk_cell HZ5.out 1).trans rfl
        clear hW hBW HF4 HZ4
        simp only [List.take_succ_cons, List.take_zero, List.drop_succ_cons, List.drop_zero]
        repeat still_step
        refine wpStill_nil ?_
        go_upto_region 7 with (at_mapUpdate; refine wpList_seen_put _ rfl _ _ _ rfl mb seen rfl HF5.out.s (D, txtU p) rfl rfl hky hmem ?_; intro w6 hs6 hg6; have HF6 := Lib.hid (HF5.out.put hs6 hg6 hne hm0 hPm hmw hsb hok); clear hs6 hg6)
        refine wp_label ?_
        have hSn : (stOf k l).n = l.length := List.length_map ..
        have h := H.out
        rw [if_neg hall, if_neg hmem, hSn] at h
        have H2 := Lib.hid h
        clear h H hA hall hall' g0 g1 g2 g3 g3f z0 z1 HF5 HZ5
        obtain ⟨g0, g1, g2, g3, g3f⟩ := HF6.out.cells
        go_wp2_with fail
        clear g0 g1 g2 g3 g3f
        go_loopg [46] l.length (fun gk v46 W => ∃ (i : Nat) (sn : List (Nat × List UInt8)) (vq : Value), v46 = .int .i64 (i : Int) ∧ i ≤ l.length ∧ l.length - i ≤ gk ∧ Hid (Srch.go (stOf k l) (stepF k l) (Srch.find (stOf k l) txtU (stepF k l) f) D p ((List.range l.length).drop i) sn so = some r) ∧ Hid (SF w0 w g mb A0 l.length c0 (allM l) P0 okq B (.slice A p.length c) p sn vq so W))
        case atStart => exact ⟨0, _, vo, rfl, by omega, by omega, H2, HF6⟩
        case round =>
          clear H2 HF6
          obtain ⟨i, sn, vq, rfl, hi1, hgk, HG, HF⟩ := hrel
          by_cases hi : i < l.length
          · obtain ⟨e, he⟩ : ∃ e, e = rd_T128 l (i : Int) := ⟨_, rfl⟩
            have hli : l[i]? = some e := by rw [he]; simp [rd_T128, hi]
            obtain ⟨ad, A11, c11, e1, x0, x1, x2, x3, x4, x5, x6, x7, x8, x9, x10, x11, x12, l11, g11⟩ := ev_at HR0.out HF.out.b i hi e he
            have HE := Lib.hid (And.intro l11 g11)
            clear l11 g11 he
            cases e1
            have hid : decide ((i : Int) < (l.length : Int)) = true := decide_eq_true (by omega)
            have hiw : IntKind.i64.wrap ((i : Int) + 1) = (i : Int) + 1 := by rw [IntKind.wrap_i64]; omega
            have hdrop : (List.range l.length).drop i = i :: (List.range l.length).drop (i + 1) := by
              rw [List.drop_eq_getElem_cons (by simpa using hi)]
              simp
            have h := HG.out
            rw [hdrop] at h
            simp only [Srch.go] at h
            have HH := Lib.hid h
            clear h HG hdrop
            go_upto_region 10 with (fail)
            refine find.settle (p := fun W => Code.wp _ _ _ _ W) (R := fun W => Hid (SF w0 w g mb _ l.length c0 (allM l) P0 okq B (.slice A p.length c) p sn vq so W) ∧ Hid (W.heap[wr.heap.size]? = some (.cells (evA e A11 c11) 128 (0, 0)))) ⟨Lib.hid (HF.out.below (below_alloc (Below.refl _ _) _)), Lib.hid (heap_alloc_new _ _)⟩ ?_
            rintro w3 ⟨HF3, HZ⟩
            clear HF x0 x1 x2 x3 x4 x5 x6 x7 x8 x9 x10 x11 x12
            obtain ⟨z0, z1, z2, z3, z4, z5, z6, z7, z8, z9, z10, z11, z12⟩ := ev_cells HZ.out
            have hb := bit_at D i hD
            have HG' : ¬ Srch.cand (stOf k l) D i = true → Hid (Srch.go (stOf k l) (stepF k l) (Srch.find (stOf k l) txtU (stepF k l) f) D p ((List.range l.length).drop (i + 1)) sn so = some r) := fun hc => Lib.hid (by have h := HH.out; rwa [if_neg hc] at h)
            by_cases hbit : D.testBit i = true
            · have HG1 := HG' (cand_no1 k l hbit)
              rw [if_pos hbit] at hb
              clear HG' HH
              go_wp2_with fail
              go_roundg (l.length - (i + 1))
              case rel => exact ⟨i + 1, sn, vq, by first | rfl | exact congrArg _ hiw | (simp [hiw]), by omega, by omega, HG1, HF3⟩
              all_goals omega
            · have hbit' : D.testBit i = false := by simpa using hbit
              rw [if_neg hbit] at hb
              by_cases hnone : noneE e = true
              · have HG1 := HG' (cand_no2 k l hli hnone)
                clear HG' HH
                go_wp2_with (go_at_call 95; refine (evNone e A11 c11 _).mono ?_; rintro e w4 ⟨rfl, hb4⟩; rw [hnone]; have HF4 := Lib.hid (HF3.out.below hb4); clear hb4)
                go_roundg (l.length - (i + 1))
                case rel => exact ⟨i + 1, sn, vq, by first | rfl | exact congrArg _ hiw | (simp [hiw]), by omega, by omega, HG1, HF4⟩
                all_goals omega
              · have hnone' : noneE e = false := by simpa using hnone
                go_upto_region 11 with (go_at_call 95; refine (evNone e A11 c11 _).mono ?_; rintro e w4 ⟨rfl, hb4⟩; rw [hnone']; have HF4 := Lib.hid (HF3.out.below hb4); have HZ4 := Lib.hid (blk_below HZ.out hb4); clear hb4)
                clear z0 z1 z2 z3 z4 z5 z6 z7 z8 z9 z10 z11 z12 HF3 HZ hb
                obtain ⟨g0, g1, g2, g3, g3f⟩ := HF4.out.cells
                go_wp2_with fail
                clear g0 g1 g2 g3 g3f
                generalize wr.heap.size = gE at *
                go_loopg [65] l.length (fun gk v65 W => ∃ (j : Nat), v65 = .int .i64 (j : Int) ∧ j ≤ l.length ∧ l.length - j ≤ gk ∧ Hid (∀ m, m < j → nb k l D i m) ∧ Hid (SF w0 w g mb _ l.length c0 (allM l) P0 okq B (.slice A p.length c) p sn vq so W) ∧ Hid (W.heap[gE]? = some (.cells (evA e A11 c11) 128 (0, 0))))
                case atStart => exact ⟨0, rfl, by omega, by omega, Lib.hid (fun m hm => by omega), HF4, HZ4⟩
                case round =>
                  clear HF4 HZ4
                  obtain ⟨j, rfl, hj1, hjk, HN, HF, HZ⟩ := hrel
                  by_cases hj : j < l.length
                  · obtain ⟨f', hf⟩ : ∃ f', f' = rd_T128 l (j : Int) := ⟨_, rfl⟩
                    have hlj : l[j]? = some f' := by rw [hf]; simp [rd_T128, hj]
                    obtain ⟨ad2, A12, c12, e2, x0, x1, x2, x3, x4, x5, x6, x7, x8, x9, x10, x11, x12, l12, g12⟩ := ev_at HR0.out HF.out.b j hj f' hf
                    clear l12 g12 hf
                    cases e2
                    have hjd : decide ((j : Int) < (l.length : Int)) = true := decide_eq_true (by omega)
                    have hjw : IntKind.i64.wrap ((j : Int) + 1) = (j : Int) + 1 := by rw [IntKind.wrap_i64]; omega
                    have hbe := before_evs k l hli hlj
                    go_upto_region 14 with (fail)
                    refine find.settle (p := fun W => Code.wp _ _ _ _ W) (R := fun W => Hid (SF w0 w g mb _ l.length c0 (allM l) P0 okq B (.slice A p.length c) p sn vq so W) ∧ Hid (W.heap[gE]? = some (.cells (evA e A11 c11) 128 (0, 0))) ∧ Hid (W.heap[wr.heap.size]? = some (.cells (evA f' A12 c12) 128 (0, 0)))) ⟨Lib.hid (HF.out.below (below_alloc (Below.refl _ _) _)), Lib.hid (blk_alloc HZ.out _), Lib.hid (heap_alloc_new _ _)⟩ ?_
                    clear HF HZ x0 x1 x2 x3 x4 x5 x6 x7 x8 x9 x10 x11 x12
                    rintro w5 ⟨HF5, HZ5, HY5⟩
                    obtain ⟨z0, z1, z2, z3, z4, z5, z6, z7, z8, z9, z10, z11, z12⟩ := ev_cells HZ5.out
                    obtain ⟨y0, y1, y2, y3, y4, y5, y6, y7, y8, y9, y10, y11, y12⟩ := ev_cells HY5.out
                    have hb := bit_at D j hD
                    have HN1 : nb k l D i j → Hid (∀ m, m < j + 1 → nb k l D i m) := fun h => Lib.hid (fun m hm => by
                      rcases Nat.lt_or_ge m j with h1 | h1
                      · exact HN.out m h1
                      · obtain rfl : m = j := by omega
                        exact h)
                    by_cases hbj : D.testBit j = true
                    · have HN2 := HN1 (.inl hbj)
                      rw [if_pos hbj] at hb
                      go_wp2_with fail
                      go_roundg (l.length - (j + 1))
                      case rel => exact ⟨j + 1, by first | rfl | exact congrArg _ hjw | (simp [hjw]), by omega, by omega, HN2, HF5, HZ5⟩
                      all_goals omega
                    · have hbj' : D.testBit j = false := by simpa using hbj
                      rw [if_neg hbj] at hb
                      by_cases hji : j = i
                      · have HN2 := HN1 (.inr (.inl hji))
                        have hjn : ((j : Int) != (i : Int)) = false := bne_eq_false_iff_eq.mpr (congrArg Int.ofNat hji)
                        clear hji
                        go_wp2_with fail
                        go_roundg (l.length - (j + 1))
                        case rel => exact ⟨j + 1, by first | rfl | exact congrArg _ hjw | (simp [hjw]), by omega, by omega, HN2, HF5, HZ5⟩
                        all_goals omega
                      · have hjn : ((j : Int) != (i : Int)) = true := bne_iff_ne.mpr (fun h => hji (Int.ofNat.inj h))
                        by_cases hmu : mustE f' = true
                        · by_cases hlt : f'.f3 < e.f2
                          · have hbe1 : (stOf k l).before j i = true := by rw [hbe, hmu, decide_eq_true hlt]; rfl
                            have HG1 := HG' (cand_no3 k l hj hbj' hji hbe1)
                            have hld : decide (f'.f3 < e.f2) = true := decide_eq_true hlt
                            go_wp2_with (go_at_call 117; refine (evMust f' A12 c12 _).mono ?_; rintro e_ w6 ⟨rfl, hb6⟩; rw [hmu]; have HF6 := Lib.hid (HF5.out.below hb6); obtain ⟨z0', z1', z2', z3', z4', z5', z6', z7', z8', z9', z10', z11', z12'⟩ := ev_cells (blk_below HZ5.out hb6); obtain ⟨y0', y1', y2', y3', y4', y5', y6', y7', y8', y9', y10', y11', y12'⟩ := ev_cells (blk_below HY5.out hb6); clear hb6)
                            go_roundg (l.length - (i + 1))
                            case rel => exact ⟨i + 1, sn, vq, by first | rfl | exact congrArg _ hiw | (simp [hiw]), by omega, by omega, HG1, HF6⟩
                            all_goals omega
                          · have HN2 := HN1 (.inr (.inr (by rw [hbe, decide_eq_false hlt, Bool.and_false])))
                            have hld : decide (f'.f3 < e.f2) = false := decide_eq_false hlt
                            go_wp2_with (go_at_call 117; refine (evMust f' A12 c12 _).mono ?_; rintro e_ w6 ⟨rfl, hb6⟩; rw [hmu]; have HF6 := Lib.hid (HF5.out.below hb6); have HZ6 := Lib.hid (blk_below HZ5.out hb6); obtain ⟨z0', z1', z2', z3', z4', z5', z6', z7', z8', z9', z10', z11', z12'⟩ := ev_cells (blk_below HZ5.out hb6); obtain ⟨y0', y1', y2', y3', y4', y5', y6', y7', y8', y9', y10', y11', y12'⟩ := ev_cells (blk_below HY5.out hb6); clear hb6)
                            go_roundg (l.length - (j + 1))
                            case rel => exact ⟨j + 1, by first | rfl | exact congrArg _ hjw | (simp [hjw]), by omega, by omega, HN2, HF6, HZ6⟩
                            all_goals omega
                        · have hmu' : mustE f' = false := by simpa using hmu
                          have HN2 := HN1 (.inr (.inr (by rw [hbe, hmu']; rfl)))
                          go_wp2_with (go_at_call 117; refine (evMust f' A12 c12 _).mono ?_; rintro e_ w6 ⟨rfl, hb6⟩; rw [hmu']; have HF6 := Lib.hid (HF5.out.below hb6); have HZ6 := Lib.hid (blk_below HZ5.out hb6); clear hb6)
                          go_roundg (l.length - (j + 1))
                          case rel => exact ⟨j + 1, by first | rfl | exact congrArg _ hjw | (simp [hjw]), by omega, by omega, HN2, HF6, HZ6⟩
                          all_goals omega
                  · obtain rfl : j = l.length := by omega
                    have hjd : decide ((l.length : Int) < (l.length : Int)) = false := decide_eq_false (by omega)
                    have hcand := cand_yes k l hli hbit' hnone' HN.out
                    have h := HH.out
                    rw [if_pos hcand] at h
                    obtain ⟨xo, hxo, hr⟩ := Option.bind_eq_some_iff.1 h
                    simp only [stepF, hli, stepE] at hxo
                    obtain ⟨⟨a1, a2, a3, a4, a5, a6, a7⟩, ha, hxo⟩ := Option.bind_eq_some_iff.1 hxo
                    dsimp only at hxo
                    have hlen : a1.length < 8796093022208 := by
                      by_cases hq : a1.length < 8796093022208
                      · exact hq
                      · rw [if_neg hq] at hxo; cases hxo
                    rw [if_pos hlen] at hxo
                    have HXo := Lib.hid hxo
                    have HRo := Lib.hid hr
                    have HA := Lib.hid ha
                    clear h HH hxo hr ha HG' HN
                    have hR1 : Hid (Kd.R (Kd.int .i64) 3 wr w0.heap.size (fun b => (P0 b ∨ w.heap.size ≤ b) ∧ b < wr.heap.size) vq (toI so)) := Lib.hid (Kd.R_mono (Kd.R_bound HF.out.o) (fun b h => ⟨h.1, h.2.2.1⟩))
                    obtain ⟨z0, z1, z2, z3, z4, z5, z6, z7, z8, z9, z10, z11, z12⟩ := ev_cells HZ.out
                    go_upto_region 17 with (go_at_call 74; refine Calls.mono (model_Apply.calls k A c p e.f1.f0 e.f1.f1 e.f1.f2 e.f1.f3 a1 a2 a3 a4 a5 a6 a7 _ (Kd.V_reads' HF.out.v).2.2 (Kd.V_reads' HF.out.v).2.1 HA.out) ?_; rintro e_ wT ⟨v0, v5, rfl, hO1, hO2, hb⟩; obtain ⟨Ax, cx, ex⟩ := Kd.R_slice hO1; subst ex; obtain ⟨Ay, cy, ey⟩ := Kd.R_slice hO2; subst ey; have HFT := Lib.hid (HF.out.below hb); have HZT := Lib.hid (blk_below HZ.out hb); have HRT := Lib.hid (Kd.R_below hR1.out hb); have HVT : Hid (Kd.V k40 40 wT wr.heap.size (fun b => wr.heap.size ≤ b ∧ b < wT.heap.size) (.slice Ax a1.length cx) a1) := Lib.hid (Kd.V_mono (Kd.R_V (Kd.R_bound hO1)) (fun b h => ⟨h.2.1, h.2.2.1⟩)); have HYT := Lib.hid (Kd.R_reads' hO2).2; have hTs := hb.size; clear hO1 hO2 hb)
                    obtain ⟨hle6, hC6⟩ := HYT.out
                    have hwr := HF.out.k.1
                    refine find.settle (p := fun W => Code.wp _ _ _ _ W) (R := fun W => Hid (SF w0 w g mb _ l.length c0 (allM l) P0 okq B (.slice A p.length c) p sn vq so W) ∧ Hid (W.heap[gE]? = some (.cells (evA e A11 c11) 128 (0, 0))) ∧ Hid (W.heap[wT.heap.size]? = some (.cells #[.int .i64 a2, .bool a3, .int .i64 a4, .int .i64 a5, .slice Ay a6.length cy, .bool a7] 84 (0, 0))) ∧ Hid (Kd.R (Kd.int .i64) 3 W w0.heap.size (fun b => (P0 b ∨ w.heap.size ≤ b) ∧ b < wr.heap.size) vq (toI so)) ∧ Hid (Kd.V k40 40 W wr.heap.size (fun b => wr.heap.size ≤ b ∧ b < wT.heap.size) (.slice Ax a1.length cx) a1) ∧ Hid (a6.length ≤ cy ∧ Kd.C k40 W Ay a6.length a6) ∧ Hid (wT.heap.size ≤ W.heap.size))
                      ⟨Lib.hid (HFT.out.below (below_alloc (Below.refl _ _) _)), Lib.hid (blk_alloc HZT.out _), Lib.hid (heap_alloc_new _ _), Lib.hid (Kd.R_alloc HRT.out _), Lib.hid (Kd.V_alloc HVT.out _), Lib.hid ⟨hle6, Kd.C_alloc hC6 _⟩, Lib.hid (below_alloc (Below.refl wT.heap.size wT) _).size⟩ ?_
                    clear HFT HZT HRT HVT HYT hle6 hC6 HF HZ hR1 z0 z1 z2 z3 z4 z5 z6 z7 z8 z9 z10 z11 z12
                    rintro wU ⟨HFU, HZU, HYb, HRU, HVU, HYU, HsU⟩
                    obtain ⟨P1, hP1d⟩ : ∃ P1 : Nat → Prop, P1 = fun b => (P0 b ∨ w.heap.size ≤ b) ∧ ¬ (wr.heap.size ≤ b ∧ b < wT.heap.size) := ⟨_, rfl⟩
                    have hP1 : ∀ b, P1 b → P0 b ∨ w.heap.size ≤ b := by rw [hP1d]; exact fun b h => h.1
                    have hPg1 : ¬ P1 g := fun h => by rcases hP1 g h with h | h; exact hPg h; omega
                    have hPm1 : ¬ P1 mb := fun h => by rcases hP1 mb h with h | h; exact hPm h; omega
                    have hok1 : ∀ b, okq b → ¬ P1 b ∧ b ≠ g ∧ b ≠ mb := fun b hb => ⟨fun h => by rcases hP1 b h with h | h; exact (hok2 b hb).1 h; have := (hok2 b hb).2.2.2; omega, (hok b hb).2.1, (hok b hb).2.2⟩
                    have hokn : ∀ b, (wr.heap.size ≤ b ∧ b < wT.heap.size) → ¬ P1 b := by rw [hP1d]; exact fun b hb h => h.2 hb
                    have hokn2 : ∀ b, (wr.heap.size ≤ b ∧ b < wT.heap.size) → ¬ P1 b ∧ b ≠ g ∧ b ≠ mb := fun b hb => ⟨hokn b hb, by omega, by omega⟩
                    have hPr : ∀ b, (P0 b ∨ w.heap.size ≤ b) → b < wr.heap.size → P1 b := by rw [hP1d]; exact fun b h1 h2 => ⟨h1, by omega⟩
                    have hPf : ∀ n_, wT.heap.size ≤ n_ → ∀ b, n_ ≤ b → P1 b := by rw [hP1d]; exact fun n_ h1 b h2 => ⟨.inr (by omega), by omega⟩
                    clear hP1d
                    have hi64 : i < 62 := by omega
                    have hD2 : D ||| 1 <<< i < 18446744073709551616 := Nat.or_lt_two_pow (n := 64) hD (by rw [Nat.one_shiftLeft]; exact Nat.pow_lt_pow_right (by decide) (by omega))
                    have hxo := HXo.out
                    have hr := HRo.out
                    clear HXo HRo
                    obtain ⟨z0, z1, z2, z3, z4, z5, z6, z7, z8, z9, z10, z11, z12⟩ := ev_cells HZU.out
                    by_cases h0 : 0 ≤ e.f3
                    · have hans : decide (0 ≤ e.f3) = true := decide_eq_true h0
                      rw [if_pos h0] at hxo
                      obtain ⟨sm, hsm, hxo⟩ := Option.bind_eq_some_iff.1 hxo
                      have HSm := Lib.hid hsm
                      obtain rfl := Option.some.inj hxo
                      clear hsm hxo
                      cases sm with
                      | false =>
                        simp only [Bool.false_eq_true, if_false] at hr
                        have HG1 := Lib.hid hr
                        clear hr
                        go_wp2_with (first | (go_at_call 96; refine (evAns e A11 c11 _).mono ?_; rintro e_ wX ⟨rfl, hbX⟩; rw [hans]; have HFX := Lib.hid (HFU.out.below hbX); have HRX := Lib.hid (Kd.R_below HRU.out hbX); have HVX := Lib.hid (Kd.V_below HVU.out hbX); have HsX := Lib.hid (Nat.le_trans HsU.out hbX.size); have HYX := Lib.hid (And.intro HYU.out.1 (Kd.C_below HYU.out.2 hbX)); obtain ⟨z0', z1', z2', z3', z4', z5', z6', z7', z8', z9', z10', z11', z12'⟩ := ev_cells (blk_below HZU.out hbX); have q0 : wX.cell? ⟨wT.heap.size, 0, none⟩ = some (.int .i64 a2) := (blk_cell (blk_below HYb.out hbX) 0).trans rfl; have q1 : wX.cell? ⟨wT.heap.size, 1, none⟩ = some (.bool a3) := (blk_cell (blk_below HYb.out hbX) 1).trans rfl; have q2 : wX.cell? ⟨wT.heap.size, 2, none⟩ = some (.int .i64 a4) := (blk_cell (blk_below HYb.out hbX) 2).trans rfl; have q3 : wX.cell? ⟨wT.heap.size, 3, none⟩ = some (.int .i64 a5) := (blk_cell (blk_below HYb.out hbX) 3).trans rfl; have q4 : wX.cell? ⟨wT.heap.size, 4, none⟩ = some (.slice Ay a6.length cy) := (blk_cell (blk_below HYb.out hbX) 4).trans rfl; have q5 : wX.cell? ⟨wT.heap.size, 5, none⟩ = some (.bool a7) := (blk_cell (blk_below HYb.out hbX) 5).trans rfl; clear hbX) | (go_at_call 81; refine Calls.mono (model_Same.calls k a2 a3 a4 a5 Ay cy a6 a7 e.f4.f0 e.f4.f1 e.f4.f2 e.f4.f3 A11 c11 e.f4.f4 e.f4.f5 false _ HYX.out.2 HYX.out.1 (Kd.C_below HE.out.2 HFX.out.b) HE.out.1 HSm.out) ?_; rintro e_ wY ⟨rfl, hbY⟩; have HFY := Lib.hid (HFX.out.below hbY); clear hbY))
                        go_roundg (l.length - (i + 1))
                        case rel => exact ⟨i + 1, sn, vq, by first | rfl | exact congrArg _ hiw | (simp [hiw]), by omega, by omega, HG1, HFY⟩
                        all_goals omega
                      | true =>
                        simp only [if_true] at hr
                        go_upto_region 18 with (first | (go_at_call 96; refine (evAns e A11 c11 _).mono ?_; rintro e_ wX ⟨rfl, hbX⟩; rw [hans]; have HFX := Lib.hid (HFU.out.below hbX); have HRX := Lib.hid (Kd.R_below HRU.out hbX); have HVX := Lib.hid (Kd.V_below HVU.out hbX); have HsX := Lib.hid (Nat.le_trans HsU.out hbX.size); have HYX := Lib.hid (And.intro HYU.out.1 (Kd.C_below HYU.out.2 hbX)); obtain ⟨z0', z1', z2', z3', z4', z5', z6', z7', z8', z9', z10', z11', z12'⟩ := ev_cells (blk_below HZU.out hbX); have q0 : wX.cell? ⟨wT.heap.size, 0, none⟩ = some (.int .i64 a2) := (blk_cell (blk_below HYb.out hbX) 0).trans rfl; have q1 : wX.cell? ⟨wT.heap.size, 1, none⟩ = some (.bool a3) := (blk_cell (blk_below HYb.out hbX) 1).trans rfl; have q2 : wX.cell? ⟨wT.heap.size, 2, none⟩ = some (.int .i64 a4) := (blk_cell (blk_below HYb.out hbX) 2).trans rfl; have q3 : wX.cell? ⟨wT.heap.size, 3, none⟩ = some (.int .i64 a5) := (blk_cell (blk_below HYb.out hbX) 3).trans rfl; have q4 : wX.cell? ⟨wT.heap.size, 4, none⟩ = some (.slice Ay a6.length cy) := (blk_cell (blk_below HYb.out hbX) 4).trans rfl; have q5 : wX.cell? ⟨wT.heap.size, 5, none⟩ = some (.bool a7) := (blk_cell (blk_below HYb.out hbX) 5).trans rfl; clear hbX) | (go_at_call 81; refine Calls.mono (model_Same.calls k a2 a3 a4 a5 Ay cy a6 a7 e.f4.f0 e.f4.f1 e.f4.f2 e.f4.f3 A11 c11 e.f4.f4 e.f4.f5 true _ HYX.out.2 HYX.out.1 (Kd.C_below HE.out.2 HFX.out.b) HE.out.1 HSm.out) ?_; rintro e_ wW ⟨rfl, hbY⟩; have HFW := Lib.hid (HFX.out.below hbY); have HRW := Lib.hid (Kd.R_below HRX.out hbY); have HVW := Lib.hid (Kd.V_below HVX.out hbY); have HsW := Lib.hid (Nat.le_trans HsX.out hbY.size); clear hbY))
                        have hso8 : ((toI so).length + 1) * 8 ≤ 140737488355328 := by unfold toI; rw [List.length_map]; omega
                        have HRW2 : Hid (Kd.R (Kd.int .i64) 3 wW w0.heap.size P1 vq (toI so)) := Lib.hid (Kd.R_mono HRW.out (fun b h => hPr b h.1 h.2))
                        have hfr : ∀ b, wW.heap.size ≤ b → P1 b := hPf _ HsW.out
                        clear HRW
                        have HRW := HRW2
                        clear HRW2
                        obtain ⟨g0, g1, g2, g3, g3f⟩ := HFW.out.cells
                        go_upto_region 19 with ((with_reducible refine gate_builtin (b := .append) (xs := #[.tmp 112, .tmp 114]) rfl ?_); at_builtin; refine Kd.R_append (Kd.int .i64) (w0 := w0) w0.heap.size rfl (.tmp 112) (.tmp 114) 110 3 (.int .i64 0) 8 rfl Try.underlying110 info3 rfl (by decide) (by omega) vq (toI so) (i : Int) [.int .i64 (i : Int)] P1 (fun _ => False) rfl rfl rfl (fun _ hk => hk.elim) hfr HRW.out HFW.out.b (below_size HFW.out.b) hso8 ?_; intro v1 w7 ho hb hg hat; rw [← toI_snoc] at ho; obtain ⟨Ao, co, eo⟩ := Kd.R_slice ho; subst eo; have HP := Lib.hid (HFW.out.push hb hg hP1 HRW.out.1 ho hg0 hne hPg1 hPm1 hok1); have HVn : Hid (Kd.V k40 40 w7 wr.heap.size (fun b => wr.heap.size ≤ b ∧ b < wT.heap.size) (.slice Ax a1.length cx) a1) := Lib.hid (Kd.V_map HVW.out (fun A hf => Kd.F_step hf (fun b hb_ hl => hg.block b hl (fun e_ => hokn b hb_ (HRW.out.1 b e_.symm))))); have hx7 := (hg.block g (Array.getElem?_eq_some_iff.1 HFW.out.x).1 (fun e_ => hPg1 (HRW.out.1 g e_.symm))).trans HFW.out.x; have k3 : w7.cell? ⟨g, 3, none⟩ = some vq := (blk_cell hx7 3).trans rfl; have k3f := blk_frozen hx7 3; clear ho hb hg hat hx7)
                        refine find.settle (p := fun W => Code.wp _ _ _ _ W) (R := fun W => Hid (SF w0 w g mb _ l.length c0 (allM l) P0 okq B (.slice A p.length c) p sn (.slice Ao (toI (so ++ [i])).length co) (so ++ [i]) W) ∧ Hid (Kd.R (Kd.int .i64) 3 W w0.heap.size P1 (.slice Ao (toI (so ++ [i])).length co) (toI (so ++ [i]))) ∧ Hid (Kd.V k40 40 W wr.heap.size (fun b => wr.heap.size ≤ b ∧ b < wT.heap.size) (.slice Ax a1.length cx) a1)) ⟨Lib.hid HP.out.1, Lib.hid HP.out.2, Lib.hid (Kd.V_far (p := ⟨g, 3, none⟩) HVn.out (fun b hb_ e_ => by have e1 : b = g := e_; have := hb_.1; omega) _)⟩ ?_
                        clear HP HVn HFW HRW HVW g0 g1 g2 g3 g3f k3 k3f
                        rintro w8 ⟨HF8, HR8, HV8⟩
                        obtain ⟨⟨xb, xs, xso⟩, hx, hr2⟩ := Option.bind_eq_some_iff.1 hr
                        have hor := or_at D i hD (by omega)
                        generalize D ||| 1 <<< i = D2 at hx hor hD2
                        have HX2 := Lib.hid hx
                        have hfal := Srch.find_false (stOf k l) txtU (stepF k l) f D2 a1 sn (so ++ [i]) _ hx
                        clear hr hx
                        cases xb with
                        | true =>
                          obtain rfl := Option.some.inj hr2
                          clear hr2 hfal
                          go_wp2_with (go_at_call 120; refine Calls.mono (IH.out D2 a1 sn (so ++ [i]) _ HX2.out P1 (fun b => wr.heap.size ≤ b ∧ b < wT.heap.size) _ Ax cx (.slice Ao (toI (so ++ [i])).length co) _ hD2 hlen (by simp; omega) HF8.out.b HF8.out.x HF8.out.s HR8.out hPg1 hPm1 HV8.out hokn2) ?_; rintro e_ w9 ⟨rfl, vo9, hb9, hk9, hx9, hs9, hR9⟩; have HF9 := Lib.hid (HF8.out.child hb9 hk9 hx9 hs9 hR9 hP1 hok1); clear hb9 hk9 hx9 hs9 hR9)
                          refine noGoto_ret ?_
                          go_ret
                          exact ⟨rfl, vo9, HF9.out.b, HF9.out.k, HF9.out.x, HF9.out.s, HF9.out.o⟩
                        | false =>
                          have hxso : xso = so ++ [i] := hfal rfl
                          subst hxso
                          clear hfal
                          rw [if_neg (by simp)] at hr2
                          have HG1 := Lib.hid hr2
                          clear hr2
                          go_upto_region 21 with (go_at_call 120; refine Calls.mono (IH.out D2 a1 sn (so ++ [i]) _ HX2.out P1 (fun b => wr.heap.size ≤ b ∧ b < wT.heap.size) _ Ax cx (.slice Ao (toI (so ++ [i])).length co) _ hD2 hlen (by simp; omega) HF8.out.b HF8.out.x HF8.out.s HR8.out hPg1 hPm1 HV8.out hokn2) ?_; rintro e_ w9 ⟨rfl, vo9, hb9, hk9, hx9, hs9, hR9⟩; have HF9 := Lib.hid (HF8.out.child hb9 hk9 hx9 hs9 hR9 hP1 hok1); have HR9 := Lib.hid hR9; have hs98 := hk9.1; clear hb9 hk9 hx9 hs9 hR9)
                          obtain ⟨N, hN⟩ : ∃ N, N = (toI so).length := ⟨_, rfl⟩
                          have hL : (toI (so ++ [i])).length = N + 1 := by rw [toI_snoc, List.length_append, hN]; rfl
                          obtain ⟨A9, c9, e9⟩ := Kd.R_slice HR9.out
                          rw [hL] at e9
                          subst e9
                          have hNb : N < 8796093022208 := by rw [hN]; unfold toI; rw [List.length_map]; omega
                          have hNc : N + 1 ≤ c9 := (Kd.R_reads' HR9.out).2.1
                          obtain ⟨ad9, ea9, _⟩ := (Kd.R_reads' HR9.out).2.2.2.2 (by rw [toI_snoc]; simp)
                          subst ea9
                          clear hL
                          have HN9 := Lib.hid hN
                          have hwN : IntKind.i64.wrap ((N : Nat) : Int) = (N : Int) := by rw [IntKind.wrap_i64]; omega
                          have hNle : N ≤ c9 := by omega
                          clear hN hs98
                          refine drawn_tail 14 (by kernel_rfl) ?_
                          intro W10 hW hBW
                          have HF10 := Lib.hid (HF9.out.below hBW)
                          obtain ⟨g0, g1, g2, g3, g3f⟩ := HF10.out.cells
                          clear hW HF9
                          simp only [List.take_succ_cons, List.take_zero, List.drop_succ_cons, List.drop_zero]
                          repeat still_step
                          refine wpStill_nil ?_
                          have HB11 : Hid (SF w0 w g mb _ l.length c0 (allM l) P0 okq B (.slice A p.length c) p xs (.slice (some ad9) N c9) so (W10.setCell ⟨g, 3, none⟩ (.slice (some ad9) N c9))) := Lib.hid ((HF10.out.push HF10.out.b (World.grownBy.refl _ _) (fun _ h => h) HF10.out.o.1 (by have h := HF10.out.o; rw [toI_snoc, HN9.out] at h; rw [HN9.out]; exact R_pop h) hg0 hne (fun h => by rcases h with h | h; exact hPg h; omega) (fun h => by rcases h with h | h; exact hPm h; omega) (fun b hb => ⟨fun h => by rcases h with h | h; exact (hok b hb).1 h; have := (hok2 b hb).2.2.2; omega, (hok b hb).2.1, (hok b hb).2.2⟩)).1)
                          go_wp2_with fail
                          go_roundg (l.length - (i + 1))
                          case rel => exact ⟨i + 1, xs, _, by first | rfl | exact congrArg _ hiw | (simp [hiw]), by omega, by omega, HG1, HB11⟩
                          all_goals omega
                    · have hans : decide (0 ≤ e.f3) = false := decide_eq_false h0
                      rw [if_neg h0] at hxo
                      obtain rfl := Option.some.inj hxo
                      clear hxo
                      dsimp only at hr
                      go_upto_region 18 with (go_at_call 96; refine (evAns e A11 c11 _).mono ?_; rintro e_ wW ⟨rfl, hbW⟩; rw [hans]; have HFW := Lib.hid (HFU.out.below hbW); have HRW := Lib.hid (Kd.R_below HRU.out hbW); have HVW := Lib.hid (Kd.V_below HVU.out hbW); have HsW := Lib.hid (Nat.le_trans HsU.out hbW.size); clear hbW)
                      have hso8 : ((toI so).length + 1) * 8 ≤ 140737488355328 := by unfold toI; rw [List.length_map]; omega
                      have HRW2 : Hid (Kd.R (Kd.int .i64) 3 wW w0.heap.size P1 vq (toI so)) := Lib.hid (Kd.R_mono HRW.out (fun b h => hPr b h.1 h.2))
                      have hfr : ∀ b, wW.heap.size ≤ b → P1 b := hPf _ HsW.out
                      clear HRW
                      have HRW := HRW2
                      clear HRW2
                      obtain ⟨g0, g1, g2, g3, g3f⟩ := HFW.out.cells
                      go_upto_region 19 with ((with_reducible refine gate_builtin (b := .append) (xs := #[.tmp 112, .tmp 114]) rfl ?_); at_builtin; refine Kd.R_append (Kd.int .i64) (w0 := w0) w0.heap.size rfl (.tmp 112) (.tmp 114) 110 3 (.int .i64 0) 8 rfl Try.underlying110 info3 rfl (by decide) (by omega) vq (toI so) (i : Int) [.int .i64 (i : Int)] P1 (fun _ => False) rfl rfl rfl (fun _ hk => hk.elim) hfr HRW.out HFW.out.b (below_size HFW.out.b) hso8 ?_; intro v1 w7 ho hb hg hat; rw [← toI_snoc] at ho; obtain ⟨Ao, co, eo⟩ := Kd.R_slice ho; subst eo; have HP := Lib.hid (HFW.out.push hb hg hP1 HRW.out.1 ho hg0 hne hPg1 hPm1 hok1); have HVn : Hid (Kd.V k40 40 w7 wr.heap.size (fun b => wr.heap.size ≤ b ∧ b < wT.heap.size) (.slice Ax a1.length cx) a1) := Lib.hid (Kd.V_map HVW.out (fun A hf => Kd.F_step hf (fun b hb_ hl => hg.block b hl (fun e_ => hokn b hb_ (HRW.out.1 b e_.symm))))); have hx7 := (hg.block g (Array.getElem?_eq_some_iff.1 HFW.out.x).1 (fun e_ => hPg1 (HRW.out.1 g e_.symm))).trans HFW.out.x; have k3 : w7.cell? ⟨g, 3, none⟩ = some vq := (blk_cell hx7 3).trans rfl; have k3f := blk_frozen hx7 3; clear ho hb hg hat hx7)
                      refine find.settle (p := fun W => Code.wp _ _ _ _ W) (R := fun W => Hid (SF w0 w g mb _ l.length c0 (allM l) P0 okq B (.slice A p.length c) p sn (.slice Ao (toI (so ++ [i])).length co) (so ++ [i]) W) ∧ Hid (Kd.R (Kd.int .i64) 3 W w0.heap.size P1 (.slice Ao (toI (so ++ [i])).length co) (toI (so ++ [i]))) ∧ Hid (Kd.V k40 40 W wr.heap.size (fun b => wr.heap.size ≤ b ∧ b < wT.heap.size) (.slice Ax a1.length cx) a1)) ⟨Lib.hid HP.out.1, Lib.hid HP.out.2, Lib.hid (Kd.V_far (p := ⟨g, 3, none⟩) HVn.out (fun b hb_ e_ => by have e1 : b = g := e_; have := hb_.1; omega) _)⟩ ?_
                      clear HP HVn HFW HRW HVW g0 g1 g2 g3 g3f k3 k3f
                      rintro w8 ⟨HF8, HR8, HV8⟩
                      obtain ⟨⟨xb, xs, xso⟩, hx, hr2⟩ := Option.bind_eq_some_iff.1 hr
                      have hor := or_at D i hD (by omega)
                      generalize D ||| 1 <<< i = D2 at hx hor hD2
                      have HX2 := Lib.hid hx
                      have hfal := Srch.find_false (stOf k l) txtU (stepF k l) f D2 a1 sn (so ++ [i]) _ hx
                      clear hr hx
                      cases xb with
                      | true =>
                        obtain rfl := Option.some.inj hr2
                        clear hr2 hfal
                        go_wp2_with (go_at_call 120; refine Calls.mono (IH.out D2 a1 sn (so ++ [i]) _ HX2.out P1 (fun b => wr.heap.size ≤ b ∧ b < wT.heap.size) _ Ax cx (.slice Ao (toI (so ++ [i])).length co) _ hD2 hlen (by simp; omega) HF8.out.b HF8.out.x HF8.out.s HR8.out hPg1 hPm1 HV8.out hokn2) ?_; rintro e_ w9 ⟨rfl, vo9, hb9, hk9, hx9, hs9, hR9⟩; have HF9 := Lib.hid (HF8.out.child hb9 hk9 hx9 hs9 hR9 hP1 hok1); clear hb9 hk9 hx9 hs9 hR9)
                        refine noGoto_ret ?_
                        go_ret
                        exact ⟨rfl, vo9, HF9.out.b, HF9.out.k, HF9.out.x, HF9.out.s, HF9.out.o⟩
                      | false =>
                        have hxso : xso = so ++ [i] := hfal rfl
                        subst hxso
                        clear hfal
                        rw [if_neg (by simp)] at hr2
                        have HG1 := Lib.hid hr2
                        clear hr2
                        go_upto_region 21 with (go_at_call 120; refine Calls.mono (IH.out D2 a1 sn (so ++ [i]) _ HX2.out P1 (fun b => wr.heap.size ≤ b ∧ b < wT.heap.size) _ Ax cx (.slice Ao (toI (so ++ [i])).length co) _ hD2 hlen (by simp; omega) HF8.out.b HF8.out.x HF8.out.s HR8.out hPg1 hPm1 HV8.out hokn2) ?_; rintro e_ w9 ⟨rfl, vo9, hb9, hk9, hx9, hs9, hR9⟩; have HF9 := Lib.hid (HF8.out.child hb9 hk9 hx9 hs9 hR9 hP1 hok1); have HR9 := Lib.hid hR9; have hs98 := hk9.1; clear hb9 hk9 hx9 hs9 hR9)
                        obtain ⟨N, hN⟩ : ∃ N, N = (toI so).length := ⟨_, rfl⟩
                        have hL : (toI (so ++ [i])).length = N + 1 := by rw [toI_snoc, List.length_append, hN]; rfl
                        obtain ⟨A9, c9, e9⟩ := Kd.R_slice HR9.out
                        rw [hL] at e9
                        subst e9
                        have hNb : N < 8796093022208 := by rw [hN]; unfold toI; rw [List.length_map]; omega
                        have hNc : N + 1 ≤ c9 := (Kd.R_reads' HR9.out).2.1
                        obtain ⟨ad9, ea9, _⟩ := (Kd.R_reads' HR9.out).2.2.2.2 (by rw [toI_snoc]; simp)
                        subst ea9
                        clear hL
                        have HN9 := Lib.hid hN
                        have hwN : IntKind.i64.wrap ((N : Nat) : Int) = (N : Int) := by rw [IntKind.wrap_i64]; omega
                        have hNle : N ≤ c9 := by omega
                        clear hN hs98
                        refine drawn_tail 14 (by kernel_rfl) ?_
                        intro W10 hW hBW
                        have HF10 := Lib.hid (HF9.out.below hBW)
                        obtain ⟨g0, g1, g2, g3, g3f⟩ := HF10.out.cells
                        clear hW HF9
                        simp only [List.take_succ_cons, List.take_zero, List.drop_succ_cons, List.drop_zero]
                        repeat still_step
                        refine wpStill_nil ?_
                        have HB11 : Hid (SF w0 w g mb _ l.length c0 (allM l) P0 okq B (.slice A p.length c) p xs (.slice (some ad9) N c9) so (W10.setCell ⟨g, 3, none⟩ (.slice (some ad9) N c9))) := Lib.hid ((HF10.out.push HF10.out.b (World.grownBy.refl _ _) (fun _ h => h) HF10.out.o.1 (by have h := HF10.out.o; rw [toI_snoc, HN9.out] at h; rw [HN9.out]; exact R_pop h) hg0 hne (fun h => by rcases h with h | h; exact hPg h; omega) (fun h => by rcases h with h | h; exact hPm h; omega) (fun b hb => ⟨fun h => by rcases h with h | h; exact (hok b hb).1 h; have := (hok2 b hb).2.2.2; omega, (hok b hb).2.1, (hok b hb).2.2⟩)).1)
                        go_wp2_with fail
                        go_roundg (l.length - (i + 1))
                        case rel => exact ⟨i + 1, xs, _, by first | rfl | exact congrArg _ hiw | (simp [hiw]), by omega, by omega, HG1, HB11⟩
                        all_goals omega
          · obtain rfl : i = l.length := by omega
            have hid : decide ((l.length : Int) < (l.length : Int)) = false := decide_eq_false (by omega)
            have h := HG.out
            rw [List.drop_of_length_le (by simp)] at h
            simp only [Srch.go] at h
            obtain rfl := Option.some.inj h
            clear h HG
            go_wp2_with fail
            refine noGoto_ret ?_
            go_ret
            exact ⟨rfl, vq, HF.out.b, HF.out.k, HF.out.x, HF.out.s, HF.out.o⟩
end Go.Proofs.Ytkoiffkonjpoiaa.Q
