/- Whether an order is one, by hand: what it does in memory, told by a plain function; under the contract's own conditions alone. -/
import Derived.Test.YtkoiffkonjpoiaaQS5
import Derived.Deep.Quiet
namespace Go.Proofs.Ytkoiffkonjpoiaa.Q
open Go.RowKit Go.Proofs.YtkoiffkonjpoiaaW.PrintWords Go.Proofs.YtkoiffkonjpoiaaW.PrintLast Go.Proofs.YtkoiffkonjpoiaaW.PrintMore Go.Proofs.YtkoiffkonjpoiaaX
attribute [local go_sem] max2_int min2_int max_two min_two max_three min_three max_four min_four Oper.quiet Oper.quietAt Oper.quietUpon
set_option linter.unusedVariables false
set_option linter.unusedSimpArgs false
/-- The places of an order's numbers; nothing where one is no number of an event, or stands twice, or did nothing. -/
def ph1 (l : List S128) : Nat → List Int → List Int → Option (List Int)
  | _, at_, [] => some at_
  | k, at_, i :: r => if i < 0 ∨ (l.length : Int) ≤ i then none else if 0 < at_.getD i.toNat 0 then none else if noneE (rd_T128 l i) = true then none else ph1 l (k + 1) (at_.set i.toNat ((k : Int) + 1)) r
def badI (l : List S128) (at_ : List Int) (i k : Nat) : Bool := mustE (rd_T128 l i) && decide ((rd_T128 l i).f3 < (rd_T128 l k).f2) && decide (0 < at_.getD k 0) && decide (at_.getD k 0 < at_.getD i 0)
def outI (l : List S128) (at_ : List Int) (i : Nat) : Bool := mustE (rd_T128 l i) && at_.getD i 0 == 0
def ph2 (l : List S128) (at_ : List Int) : Bool := (List.range l.length).all fun i => !outI l at_ i && (List.range l.length).all fun k => !badI l at_ i k
def ph3 (k : Nat) (l : List S128) : List S40 → List Int → Option Bool
  | _, [] => some true
  | p, i :: r => (stepF k l p i.toNat).bind fun x => match x with | none => some false | some q => ph3 k l q r
def Legal.f (k : Nat) (l0 : List S40) (l : List S128) (order : List Int) : Option Bool :=
  if l.length < 8796093022208 ∧ l0.length < 8796093022208 then (match ph1 l 0 (List.replicate l.length 0) order with | none => some false | some at_ => if ph2 l at_ = true then ph3 k l l0 order else some false) else none
theorem ph1_ok (l : List S128) : ∀ (order : List Int) (k : Nat) (at_ at2 : List Int), ph1 l k at_ order = some at2 → ∀ i ∈ order, 0 ≤ i ∧ i < (l.length : Int)
  | [], _, _, _, _, i, hi => by simp at hi
  | j :: r, k, at_, at2, h, i, hi => by
    simp only [ph1] at h
    split at h
    · cases h
    · rename_i h1
      split at h
      · cases h
      · split at h
        · cases h
        · rcases List.mem_cons.1 hi with rfl | hi
          · omega
          · exact ph1_ok l r _ _ _ h i hi
/-- The places' cells. -/
def atA (at_ : List Int) : Array Value := (at_.map (Value.int .i64)).toArray
theorem at_cell {W : World} {g : Nat} {at_ : List Int} (h : W.heap[g]? = some (.cells (atA at_) 3 (0, 0))) (i : Nat) (hi : i < at_.length) : W.cell? ⟨g, i, none⟩ = some (.int .i64 (at_.getD i 0)) := by
  rw [cells_cell h]
  simp [atA, hi]
theorem at_put {W : World} {g : Nat} {at_ : List Int} (h : W.heap[g]? = some (.cells (atA at_) 3 (0, 0))) (i : Nat) (x : Int) : (W.setCell ⟨g, i, none⟩ (.int .i64 x)).heap[g]? = some (.cells (atA (at_.set i x)) 3 (0, 0)) :=
  blk_put h i _ (by simp [atA, List.map_set])
theorem at_made (n : Nat) : madeCells #[Value.int .i64 0] n = atA (List.replicate n 0) := by
  apply Array.ext'
  rw [toList_madeCells_one]
  simp [atA]
structure WQ (ops : Array Oper) (C : World → Prop) (Q : Act → Prop) (l : List Oper) (a : Act) : Prop where
  out : wpQuiet Try.prog ops C Q l a
theorem WQ_step {ops : Array Oper} {C : World → Prop} {Q : Act → Prop} {o : Oper} {rest : List Oper} {a : Act} (h : ∀ K : Act → Prop, (∀ a, WQ ops C Q rest a → K a) → if Region.wanted o (yielded ops a.tmps) then o.quiet Try.prog a C K else K (a.put o.dst undef)) : WQ ops C Q (o :: rest) a :=
  ⟨wpQuiet_step (fun K hK => h K (fun a ha => hK a ha.out))⟩
theorem WQ_nil {ops : Array Oper} {C : World → Prop} {Q : Act → Prop} {a : Act} (h : Q a) : WQ ops C Q [] a := ⟨h⟩
theorem quiet_reg {id : Nat} {Q : Exit → Act → World → Prop} {a : Act} {w : World} {l : List Oper} (C : World → Prop) (hC0 : C w) (hCb : ∀ W W', C W → Below W.heap.size W W' → C W') (hB : Region.lexB .any l.toArray = true)
    (h : WQ l.toArray C (fun a' => ∀ w', C w' → Q .normal a' w') l a) : (Code.region id l.toArray true).wp Try.prog Q a w :=
  wp_region_quiet Try_mixed hB (hCb _ _ hC0 (below_drawn w)) (by simpa using h.out)
theorem ph2_no1 (l : List S128) (at_ : List Int) {i : Nat} (hi : i < l.length) (h : outI l at_ i = true) : ¬ ph2 l at_ = true := by
  intro hp
  have := List.all_eq_true.1 hp i (List.mem_range.2 hi)
  simp [h] at this
theorem ph2_no2 (l : List S128) (at_ : List Int) {i k : Nat} (hi : i < l.length) (hk : k < l.length) (h : badI l at_ i k = true) : ¬ ph2 l at_ = true := by
  intro hp
  have := List.all_eq_true.1 hp i (List.mem_range.2 hi)
  simp only [Bool.and_eq_true, List.all_eq_true, List.mem_range] at this
  have := this.2 k hk
  simp [h] at this
def goodI (l : List S128) (at_ : List Int) (i : Nat) : Prop := outI l at_ i = false ∧ ∀ k, k < l.length → badI l at_ i k = false
theorem ph2_yes (l : List S128) (at_ : List Int) (h : ∀ i, i < l.length → goodI l at_ i) : ph2 l at_ = true := by
  simp only [ph2, List.all_eq_true, List.mem_range, Bool.and_eq_true, Bool.not_eq_true']
  exact h
set_option maxHeartbeats 8000000 in
set_option maxRecDepth 100000 in
theorem Legal.calls (k : Nat) (A0 : Option Addr) (c0 : Nat) (l0 : List S40) (A1 : Option Addr) (c1 : Nat) (l : List S128) (A2 : Option Addr) (c2 : Nat) (order : List Int) (r : Bool) (w : World) (hr0 : Kd.C k40 w A0 l0.length l0) (hc0 : l0.length ≤ c0) (hr1 : Kd.C k128 w A1 l.length l) (hc1 : l.length ≤ c1) (hr2 : Kd.C (Kd.int .i64) w A2 order.length order) (hc2 : order.length ≤ c2) (h : Legal.f k l0 l order = some r) :
    Calls Try.prog 89 #[.slice A0 l0.length c0, .slice A1 l.length c1, .slice A2 order.length c2] w fun e w' => e = .returned (.bool r) ∧ Below w.heap.size w w' := by
  have hu128 := Try.underlying128
  have hu84 := Try.underlying84
  have hu78 := Try.underlying78
  have HR0 := Lib.hid hr0
  have HC0 := Lib.hid hc0
  have HR1 := Lib.hid hr1
  have HC1 := Lib.hid hc1
  have HR2 := Lib.hid hr2
  have HC2 := Lib.hid hc2
  clear hr0 hc0 hr1 hc1 hr2 hc2
  unfold Legal.f at h
  by_cases hlim : l.length < 8796093022208 ∧ l0.length < 8796093022208
  · rw [if_pos hlim] at h
    obtain ⟨hl1, hl0⟩ := hlim
    have H1 := Lib.hid h
    clear h
    obtain ⟨i3, hi3, hz3, hs3, hb3⟩ := info_parts (show (Try.prog.info? 3).map (fun i => (i.zero, i.size, i.bytes)) = some (some (.int .i64 0), 1, 8) by kernel_rfl)
    have hmk := fun w : World => run_make (P := Try.prog) w 110 3 i3 (.int .i64 0) Try.underlying110 hi3 hz3 .i64 .i64 (l.length : Int) (l.length : Int) (by omega) (Int.le_refl _) (by rw [hb3]; omega) (by omega)
    go_enter Try.func89, Try.ntmps89
    go_upto_region 2 with (fail)
    refine find.settle (p := fun W => Code.wp _ _ _ _ W) (R := fun W => Hid (Below w.heap.size w W) ∧ Hid (W.heap[w.heap.size]? = some (.cells (atA (List.replicate l.length 0)) 3 (0, 0)))) ⟨Lib.hid (below_alloc (Below.refl _ _) _), Lib.hid (by rw [at_made]; exact heap_alloc_new _ _)⟩ ?_
    rintro w1 ⟨HB, HT⟩
    clear hmk hi3 hz3 hs3 hb3
    go_wp2_with fail
    go_loopg [24] order.length (fun gk v24 W => ∃ (kk : Nat) (at_ : List Int), v24 = .int .i64 (kk : Int) ∧ kk ≤ order.length ∧ order.length - kk ≤ gk ∧ at_.length = l.length ∧ Hid ((match ph1 l kk at_ (order.drop kk) with | none => some false | some at_ => if ph2 l at_ = true then ph3 k l l0 order else some false) = some r) ∧ Hid (Below w.heap.size w W) ∧ Hid (W.heap[w.heap.size]? = some (.cells (atA at_) 3 (0, 0))) ∧ Hid (ph1 l kk at_ (order.drop kk) = ph1 l 0 (List.replicate l.length 0) order))
    case atStart => exact ⟨0, _, rfl, by omega, by omega, by simp, by rw [List.drop_zero]; exact H1, HB, HT, Lib.hid (by rw [List.drop_zero])⟩
    case round =>
      clear H1 HB HT
      obtain ⟨kk, at_, rfl, hk1, hgk, hal, H1, HB, HT, HQ⟩ := hrel
      by_cases hkk : kk < order.length
      · obtain ⟨ad2, e2, y0⟩ := Kd.at_int (Kd.C_below HR2.out HB.out) (kk : Int) (by omega) (by omega)
        cases e2
        rw [Int.toNat_natCast] at y0
        obtain ⟨i, hie⟩ : ∃ i, i = rd order (kk : Int) := ⟨_, rfl⟩
        rw [← hie] at y0
        have hdrop : order.drop kk = i :: order.drop (kk + 1) := by
          rw [List.drop_eq_getElem_cons hkk, hie]
          simp [rd, hkk]
        have hkd : decide ((kk : Int) < (order.length : Int)) = true := decide_eq_true (by omega)
        have hkw : IntKind.i64.wrap ((kk : Int) + 1) = (kk : Int) + 1 := by
          have := C_len HR2.out
          rw [IntKind.wrap_i64]; omega
        have h := H1.out
        have hq : ph1 l kk at_ (i :: order.drop (kk + 1)) = ph1 l kk at_ (order.drop kk) := by rw [hdrop]
        have HQ1 := HQ
        rw [hdrop] at h
        simp only [ph1] at h
        conv at hq => lhs; simp only [ph1]
        clear H1 HQ hdrop hie
        by_cases hi0 : i < 0
        · rw [if_pos (.inl hi0)] at h
          obtain rfl := Option.some.inj h
          have hd : decide (i < 0) = true := decide_eq_true hi0
          clear h hq
          go_wp2_with fail
          go_ret
          exact ⟨rfl, HB.out⟩
        · obtain ⟨j, rfl⟩ := Int.eq_ofNat_of_zero_le (show 0 ≤ i by omega)
          have hd : decide ((j : Int) < 0) = false := decide_eq_false hi0
          by_cases hjn : l.length ≤ j
          · rw [if_pos (.inr (by omega))] at h
            obtain rfl := Option.some.inj h
            have hd2 : decide ((l.length : Int) ≤ (j : Int)) = true := decide_eq_true (by omega)
            clear h hq hi0
            go_wp2_with fail
            go_ret
            exact ⟨rfl, HB.out⟩
          · have hd2 : decide ((l.length : Int) ≤ (j : Int)) = false := decide_eq_false (by omega)
            rw [if_neg (by omega)] at h hq
            rw [Int.toNat_natCast] at h hq
            have hj : j < l.length := by omega
            have t0 := at_cell HT.out j (by omega)
            obtain ⟨av, hav⟩ : ∃ av, av = at_.getD j 0 := ⟨_, rfl⟩
            rw [← hav] at t0 h hq
            have HAv := Lib.hid hav
            clear hav
            have hjc : decide ((j : Int) < (l.length : Int)) = true := decide_eq_true (by omega)
            by_cases ha0 : 0 < av
            · rw [if_pos ha0] at h
              obtain rfl := Option.some.inj h
              have hd3 : decide (0 < av) = true := decide_eq_true ha0
              clear h hq hi0
              go_wp2_with fail
              go_ret
              exact ⟨rfl, HB.out⟩
            · rw [if_neg ha0] at h hq
              have hd3 : decide (0 < av) = false := decide_eq_false ha0
              obtain ⟨e, he⟩ : ∃ e, e = rd_T128 l (j : Int) := ⟨_, rfl⟩
              rw [← he] at h hq
              obtain ⟨ad, A11, c11, e1, x0, x1, x2, x3, x4, x5, x6, x7, x8, x9, x10, x11, x12, l11, g11⟩ := ev_at HR1.out HB.out j hj e he
              clear l11 g11 he
              cases e1
              by_cases hno : noneE e = true
              · rw [if_pos hno] at h
                obtain rfl := Option.some.inj h
                clear h hq hi0
                go_wp2_with (go_at_call 95; refine (evNone e A11 c11 _).mono ?_; rintro e_ w4 ⟨rfl, hb4⟩; rw [hno]; have HB4 := Lib.hid (below_step HB.out hb4); clear hb4)
                go_ret
                exact ⟨rfl, HB4.out⟩
              · have hno' : noneE e = false := by simpa using hno
                rw [if_neg hno] at h hq
                have H2 := Lib.hid h
                have HQ2 := Lib.hid (hq.trans HQ1.out)
                clear h hq hi0
                go_upto_region 7 with (go_at_call 95; refine (evNone e A11 c11 _).mono ?_; rintro e_ w4 ⟨rfl, hb4⟩; rw [hno']; have HB4 := Lib.hid (below_step HB.out hb4); have HT4 := Lib.hid (blk_below HT.out hb4); clear hb4)
                have t4 := at_cell HT4.out j (by omega)
                have t4f := blk_frozen HT4.out j
                have HB5 : Hid (Below w.heap.size w (w4.setCell ⟨w.heap.size, j, none⟩ (.int .i64 ((kk : Int) + 1)))) := Lib.hid (below_set HB4.out (Nat.le_refl _))
                have HT5 := Lib.hid (at_put HT4.out j ((kk : Int) + 1))
                go_wp2_with fail
                go_roundg (order.length - (kk + 1))
                case rel => exact ⟨kk + 1, _, by first | rfl | exact congrArg _ hkw | (simp [hkw]), by omega, by omega, by rw [List.length_set]; exact hal, H2, HB5, HT5, HQ2⟩
                all_goals omega
      · obtain rfl : kk = order.length := by omega
        have hkd : decide ((order.length : Int) < (order.length : Int)) = false := decide_eq_false (by omega)
        have h := H1.out
        have hq := HQ.out
        rw [List.drop_length] at h hq
        simp only [ph1] at h hq
        have hvo := ph1_ok l order 0 _ at_ hq.symm
        have H2 := Lib.hid h
        clear h hq H1 HQ
        go_wp2_with fail
        go_loopg [59] l.length (fun gk v59 W => ∃ (i : Nat), v59 = .int .i64 (i : Int) ∧ i ≤ l.length ∧ l.length - i ≤ gk ∧ Hid (∀ m, m < i → goodI l at_ m) ∧ Hid (Below w.heap.size w W) ∧ Hid (W.heap[w.heap.size]? = some (.cells (atA at_) 3 (0, 0))))
        case atStart => exact ⟨0, rfl, by omega, by omega, Lib.hid (fun m hm => by omega), HB, HT⟩
        case round =>
          clear HB HT
          obtain ⟨i, rfl, hi1, hik, HG, HB, HT⟩ := hrel
          by_cases hi : i < l.length
          · obtain ⟨e, he⟩ : ∃ e, e = rd_T128 l (i : Int) := ⟨_, rfl⟩
            obtain ⟨ad, A11, c11, e1, x0, x1, x2, x3, x4, x5, x6, x7, x8, x9, x10, x11, x12, l11, g11⟩ := ev_at HR1.out HB.out i hi e he
            have HE := Lib.hid he
            clear l11 g11 he
            cases e1
            have hid : decide ((i : Int) < (l.length : Int)) = true := decide_eq_true (by omega)
            have hiw : IntKind.i64.wrap ((i : Int) + 1) = (i : Int) + 1 := by rw [IntKind.wrap_i64]; omega
            obtain ⟨ai, hai⟩ : ∃ ai, ai = at_.getD i 0 := ⟨_, rfl⟩
            have HAi := Lib.hid hai
            clear hai
            go_upto_region 12 with (fail)
            refine find.settle (p := fun W => Code.wp _ _ _ _ W) (R := fun W => Hid (Below w.heap.size w W) ∧ Hid (W.heap[w.heap.size]? = some (.cells (atA at_) 3 (0, 0))) ∧ Hid (W.heap[wr.heap.size]? = some (.cells (evA e A11 c11) 128 (0, 0)))) ⟨Lib.hid (below_alloc HB.out _), Lib.hid (blk_alloc HT.out _), Lib.hid (heap_alloc_new _ _)⟩ ?_
            clear HB HT x0 x1 x2 x3 x4 x5 x6 x7 x8 x9 x10 x11 x12
            rintro w3 ⟨HB, HT, HZ⟩
            generalize wr.heap.size = gE at *
            obtain ⟨z0, z1, z2, z3, z4, z5, z6, z7, z8, z9, z10, z11, z12⟩ := ev_cells HZ.out
            by_cases hout : outI l at_ i = true
            · have hf := ph2_no1 l at_ hi hout
              have h := H2.out
              rw [if_neg hf] at h
              obtain rfl := Option.some.inj h
              clear h H2 hf
              simp only [outI, Bool.and_eq_true] at hout
              rw [← HE.out, ← HAi.out] at hout
              obtain ⟨hm, ha⟩ := hout
              go_wp2_with (go_at_call 117; refine (evMust e A11 c11 _).mono ?_; rintro e_ w4 ⟨rfl, hb4⟩; rw [hm]; have HB4 := Lib.hid (below_step HB.out hb4); have t4 := at_cell (blk_below HT.out hb4) i (by omega); rw [← HAi.out] at t4; clear hb4)
              go_ret
              exact ⟨rfl, HB4.out⟩
            · have hout' : outI l at_ i = false := by simpa using hout
              by_cases hm : mustE e = true
              · have ha : (ai == 0) = false := by
                  have := hout'
                  simp only [outI] at this
                  rw [← HE.out, ← HAi.out, hm] at this
                  simpa using this
                go_upto_region 14 with (go_at_call 117; refine (evMust e A11 c11 _).mono ?_; rintro e_ w4 ⟨rfl, hb4⟩; rw [hm]; have HB4 := Lib.hid (below_step HB.out hb4); have HT4 := Lib.hid (blk_below HT.out hb4); have HZ4 := Lib.hid (blk_below HZ.out hb4); have t4 := at_cell (blk_below HT.out hb4) i (by omega); rw [← HAi.out] at t4; clear hb4)
                clear t4 HB HT HZ z0 z1 z2 z3 z4 z5 z6 z7 z8 z9 z10 z11 z12
                go_wp2_with fail
                go_loopg [75] l.length (fun gk v75 W => ∃ (j : Nat), v75 = .int .i64 (j : Int) ∧ j ≤ l.length ∧ l.length - j ≤ gk ∧ Hid (∀ m, m < j → badI l at_ i m = false) ∧ Hid (Below w.heap.size w W) ∧ Hid (W.heap[w.heap.size]? = some (.cells (atA at_) 3 (0, 0))) ∧ Hid (W.heap[gE]? = some (.cells (evA e A11 c11) 128 (0, 0))))
                case atStart => exact ⟨0, rfl, by omega, by omega, Lib.hid (fun m hm => by omega), HB4, HT4, HZ4⟩
                case round =>
                  clear HB4 HT4 HZ4
                  obtain ⟨j, rfl, hj1, hjk, HN, HB, HT, HZ⟩ := hrel
                  by_cases hj : j < l.length
                  · obtain ⟨f', hf'⟩ : ∃ f', f' = rd_T128 l (j : Int) := ⟨_, rfl⟩
                    obtain ⟨ad2, A12, c12, e2, x0, x1, x2, x3, x4, x5, x6, x7, x8, x9, x10, x11, x12, l12, g12⟩ := ev_at HR1.out HB.out j hj f' hf'
                    have HFf := Lib.hid hf'
                    clear l12 g12 hf'
                    cases e2
                    have hjd : decide ((j : Int) < (l.length : Int)) = true := decide_eq_true (by omega)
                    have hjw : IntKind.i64.wrap ((j : Int) + 1) = (j : Int) + 1 := by rw [IntKind.wrap_i64]; omega
                    obtain ⟨aj, haj⟩ : ∃ aj, aj = at_.getD j 0 := ⟨_, rfl⟩
                    have HAj := Lib.hid haj
                    clear haj
                    go_upto_region 17 with (fail)
                    refine find.settle (p := fun W => Code.wp _ _ _ _ W) (R := fun W => Hid (Below w.heap.size w W) ∧ Hid (W.heap[w.heap.size]? = some (.cells (atA at_) 3 (0, 0))) ∧ Hid (W.heap[gE]? = some (.cells (evA e A11 c11) 128 (0, 0))) ∧ Hid (W.heap[wr.heap.size]? = some (.cells (evA f' A12 c12) 128 (0, 0)))) ⟨Lib.hid (below_alloc HB.out _), Lib.hid (blk_alloc HT.out _), Lib.hid (blk_alloc HZ.out _), Lib.hid (heap_alloc_new _ _)⟩ ?_
                    clear HB HT HZ x0 x1 x2 x3 x4 x5 x6 x7 x8 x9 x10 x11 x12
                    rintro w5 ⟨HB5, HT5, HZ5, HY5⟩
                    generalize wr.heap.size = gF at *
                    have HN1 : badI l at_ i j = false → Hid (∀ m, m < j + 1 → badI l at_ i m = false) := fun h => Lib.hid (fun m hm => by
                      rcases Nat.lt_or_ge m j with h1 | h1
                      · exact HN.out m h1
                      · obtain rfl : m = j := by omega
                        exact h)
                    have hbad : badI l at_ i j = (mustE e && decide (e.f3 < f'.f2) && decide (0 < aj) && decide (aj < ai)) := by unfold badI; rw [HAj.out, HAi.out, HE.out, HFf.out]
                    obtain ⟨C, hCd⟩ : ∃ C : World → Prop, C = fun W => Hid (Below w.heap.size w W) ∧ Hid (W.heap[w.heap.size]? = some (.cells (atA at_) 3 (0, 0))) ∧ Hid (W.heap[gE]? = some (.cells (evA e A11 c11) 128 (0, 0))) ∧ Hid (W.heap[gF]? = some (.cells (evA f' A12 c12) 128 (0, 0))) := ⟨_, rfl⟩
                    have hC0 : C w5 := by rw [hCd]; exact ⟨HB5, HT5, HZ5, HY5⟩
                    have hCb : ∀ W W', C W → Below W.heap.size W W' → C W' := by rw [hCd]; rintro W W' ⟨h1, h2, h3, h4⟩ hb; exact ⟨Lib.hid (below_step h1.out hb), Lib.hid (blk_below h2.out hb), Lib.hid (blk_below h3.out hb), Lib.hid (blk_below h4.out hb)⟩
                    have hfac : ∀ W, C W → W.cell? ⟨gE, 0, none⟩ = some (.int .i64 e.f0) ∧ W.cell? ⟨gE, 1, none⟩ = some (.int .u8 e.f1.f0) ∧ W.cell? ⟨gE, 2, none⟩ = some (.int .i64 e.f1.f1) ∧ W.cell? ⟨gE, 3, none⟩ = some (.int .i64 e.f1.f2) ∧ W.cell? ⟨gE, 4, none⟩ = some (.int .i64 e.f1.f3) ∧ W.cell? ⟨gE, 5, none⟩ = some (.int .i64 e.f2) ∧ W.cell? ⟨gE, 6, none⟩ = some (.int .i64 e.f3) ∧ W.cell? ⟨gE, 7, none⟩ = some (.int .i64 e.f4.f0) ∧ W.cell? ⟨gE, 8, none⟩ = some (.bool e.f4.f1) ∧ W.cell? ⟨gE, 9, none⟩ = some (.int .i64 e.f4.f2) ∧ W.cell? ⟨gE, 10, none⟩ = some (.int .i64 e.f4.f3) ∧ W.cell? ⟨gE, 11, none⟩ = some (.slice A11 e.f4.f4.length c11) ∧ W.cell? ⟨gE, 12, none⟩ = some (.bool e.f4.f5) ∧ W.cell? ⟨gF, 5, none⟩ = some (.int .i64 f'.f2) ∧ W.cell? ⟨w.heap.size, i, none⟩ = some (.int .i64 ai) ∧ W.cell? ⟨w.heap.size, j, none⟩ = some (.int .i64 aj) := by rw [hCd]; rintro W ⟨h1, h2, h3, h4⟩; obtain ⟨z0, z1, z2, z3, z4, z5, z6, z7, z8, z9, z10, z11, z12⟩ := ev_cells h3.out; obtain ⟨y0, y1, y2, y3, y4, y5, y6, y7, y8, y9, y10, y11, y12⟩ := ev_cells h4.out; exact ⟨z0, z1, z2, z3, z4, z5, z6, z7, z8, z9, z10, z11, z12, y5, by have := at_cell h2.out i (by omega); rwa [← HAi.out] at this, by have := at_cell h2.out j (by omega); rwa [← HAj.out] at this⟩
                    have hcm : ∀ W, Calls Try.prog 117 #[.agg (evA e A11 c11)] W fun e_ w' => e_ = .returned (.bool true) ∧ Below W.heap.size W w' := by intro W; have := evMust e A11 c11 W; rwa [hm] at this
                    have HCd := Lib.hid hCd
                    clear hCd HB5 HT5 HZ5 HY5
                    by_cases hlt : e.f3 < f'.f2
                    · have hld : decide (e.f3 < f'.f2) = true := decide_eq_true hlt
                      by_cases ha1 : 0 < aj
                      · have hd1 : decide (0 < aj) = true := decide_eq_true ha1
                        by_cases ha2 : aj < ai
                        · have hd2 : decide (aj < ai) = true := decide_eq_true ha2
                          have hbt : badI l at_ i j = true := by rw [hbad, hm, hld, hd1, hd2]; rfl
                          have hf := ph2_no2 l at_ hi hj hbt
                          have h := H2.out
                          rw [if_neg hf] at h
                          obtain rfl := Option.some.inj h
                          clear h H2 hf
                          refine quiet_reg C hC0 hCb (by kernel_rfl) ?_
                          repeat (refine WQ_step (fun K hK => ?_); go_simp; first | (refine hK _ ?_; clear hK K) | (apply Exists.intro; refine ⟨fun W hW => ?_, hK _ ?_⟩; (first | rfl | exact ⟨rfl, rfl⟩ | (obtain ⟨q0, q1, q2, q3, q4, q5, q6, q7, q8, q9, q10, q11, q12, q13, q14, q15⟩ := hfac W hW; first | (go_simp; done) | (go_simp; rfl) | (go_simp; exact ⟨rfl, rfl⟩) | exact (hcm W).mono (by rintro e_ w_ ⟨rfl, hb_⟩; exact ⟨rfl, hCb W w_ hW hb_⟩))); clear hK K))
                          refine WQ_nil ?_
                          intro W7 hW7
                          rw [HCd.out] at hW7
                          obtain ⟨HB7, HT7, HZ7, HY7⟩ := hW7
                          go_wp2_with fail
                          go_ret
                          exact ⟨rfl, HB7.out⟩
                        · have hd2 : decide (aj < ai) = false := decide_eq_false ha2
                          have HN2 := HN1 (by rw [hbad, hd2, Bool.and_false])
                          refine quiet_reg C hC0 hCb (by kernel_rfl) ?_
                          repeat (refine WQ_step (fun K hK => ?_); go_simp; first | (refine hK _ ?_; clear hK K) | (apply Exists.intro; refine ⟨fun W hW => ?_, hK _ ?_⟩; (first | rfl | exact ⟨rfl, rfl⟩ | (obtain ⟨q0, q1, q2, q3, q4, q5, q6, q7, q8, q9, q10, q11, q12, q13, q14, q15⟩ := hfac W hW; first | (go_simp; done) | (go_simp; rfl) | (go_simp; exact ⟨rfl, rfl⟩) | exact (hcm W).mono (by rintro e_ w_ ⟨rfl, hb_⟩; exact ⟨rfl, hCb W w_ hW hb_⟩))); clear hK K))
                          refine WQ_nil ?_
                          intro W7 hW7
                          rw [HCd.out] at hW7
                          obtain ⟨HB7, HT7, HZ7, HY7⟩ := hW7
                          go_wp2_with fail
                          go_roundg (l.length - (j + 1))
                          case rel => exact ⟨j + 1, by first | rfl | exact congrArg _ hjw | (simp [hjw]), by omega, by omega, HN2, HB7, HT7, HZ7⟩
                          all_goals omega
                      · have hd1 : decide (0 < aj) = false := decide_eq_false ha1
                        have HN2 := HN1 (by rw [hbad, hd1, Bool.and_false, Bool.false_and])
                        refine quiet_reg C hC0 hCb (by kernel_rfl) ?_
                        repeat (refine WQ_step (fun K hK => ?_); go_simp; first | (refine hK _ ?_; clear hK K) | (apply Exists.intro; refine ⟨fun W hW => ?_, hK _ ?_⟩; (first | rfl | exact ⟨rfl, rfl⟩ | (obtain ⟨q0, q1, q2, q3, q4, q5, q6, q7, q8, q9, q10, q11, q12, q13, q14, q15⟩ := hfac W hW; first | (go_simp; done) | (go_simp; rfl) | (go_simp; exact ⟨rfl, rfl⟩) | exact (hcm W).mono (by rintro e_ w_ ⟨rfl, hb_⟩; exact ⟨rfl, hCb W w_ hW hb_⟩))); clear hK K))
                        refine WQ_nil ?_
                        intro W7 hW7
                        rw [HCd.out] at hW7
                        obtain ⟨HB7, HT7, HZ7, HY7⟩ := hW7
                        go_wp2_with fail
                        go_roundg (l.length - (j + 1))
                        case rel => exact ⟨j + 1, by first | rfl | exact congrArg _ hjw | (simp [hjw]), by omega, by omega, HN2, HB7, HT7, HZ7⟩
                        all_goals omega
                    · have hld : decide (e.f3 < f'.f2) = false := decide_eq_false hlt
                      have HN2 := HN1 (by rw [hbad, hld, Bool.and_false, Bool.false_and, Bool.false_and])
                      refine quiet_reg C hC0 hCb (by kernel_rfl) ?_
                      repeat (refine WQ_step (fun K hK => ?_); go_simp; first | (refine hK _ ?_; clear hK K) | (apply Exists.intro; refine ⟨fun W hW => ?_, hK _ ?_⟩; (first | rfl | exact ⟨rfl, rfl⟩ | (obtain ⟨q0, q1, q2, q3, q4, q5, q6, q7, q8, q9, q10, q11, q12, q13, q14, q15⟩ := hfac W hW; first | (go_simp; done) | (go_simp; rfl) | (go_simp; exact ⟨rfl, rfl⟩) | exact (hcm W).mono (by rintro e_ w_ ⟨rfl, hb_⟩; exact ⟨rfl, hCb W w_ hW hb_⟩))); clear hK K))
                      refine WQ_nil ?_
                      intro W7 hW7
                      rw [HCd.out] at hW7
                      obtain ⟨HB7, HT7, HZ7, HY7⟩ := hW7
                      go_wp2_with fail
                      go_roundg (l.length - (j + 1))
                      case rel => exact ⟨j + 1, by first | rfl | exact congrArg _ hjw | (simp [hjw]), by omega, by omega, HN2, HB7, HT7, HZ7⟩
                      all_goals omega
                  · obtain rfl : j = l.length := by omega
                    have hjd : decide ((l.length : Int) < (l.length : Int)) = false := decide_eq_false (by omega)
                    have HG2 : Hid (∀ m, m < i + 1 → goodI l at_ m) := Lib.hid (fun m hm => by
                      rcases Nat.lt_or_ge m i with h1 | h1
                      · exact HG.out m h1
                      · obtain rfl : m = i := by omega
                        exact ⟨hout', HN.out⟩)
                    go_wp2_with fail
                    go_roundg (l.length - (i + 1))
                    case rel => exact ⟨i + 1, by first | rfl | exact congrArg _ hiw | (simp [hiw]), by omega, by omega, HG2, HB, HT⟩
                    all_goals omega
              · have hm' : mustE e = false := by simpa using hm
                clear hm
                have hm := hm'
                clear hm'
                go_upto_region 14 with (go_at_call 117; refine (evMust e A11 c11 _).mono ?_; rintro e_ w4 ⟨rfl, hb4⟩; rw [hm]; have HB4 := Lib.hid (below_step HB.out hb4); have HT4 := Lib.hid (blk_below HT.out hb4); have HZ4 := Lib.hid (blk_below HZ.out hb4); have t4 := at_cell (blk_below HT.out hb4) i (by omega); rw [← HAi.out] at t4; clear hb4)
                clear t4 HB HT HZ z0 z1 z2 z3 z4 z5 z6 z7 z8 z9 z10 z11 z12
                go_wp2_with fail
                go_loopg [75] l.length (fun gk v75 W => ∃ (j : Nat), v75 = .int .i64 (j : Int) ∧ j ≤ l.length ∧ l.length - j ≤ gk ∧ Hid (∀ m, m < j → badI l at_ i m = false) ∧ Hid (Below w.heap.size w W) ∧ Hid (W.heap[w.heap.size]? = some (.cells (atA at_) 3 (0, 0))) ∧ Hid (W.heap[gE]? = some (.cells (evA e A11 c11) 128 (0, 0))))
                case atStart => exact ⟨0, rfl, by omega, by omega, Lib.hid (fun m hm => by omega), HB4, HT4, HZ4⟩
                case round =>
                  clear HB4 HT4 HZ4
                  obtain ⟨j, rfl, hj1, hjk, HN, HB, HT, HZ⟩ := hrel
                  by_cases hj : j < l.length
                  · obtain ⟨f', hf'⟩ : ∃ f', f' = rd_T128 l (j : Int) := ⟨_, rfl⟩
                    obtain ⟨ad2, A12, c12, e2, x0, x1, x2, x3, x4, x5, x6, x7, x8, x9, x10, x11, x12, l12, g12⟩ := ev_at HR1.out HB.out j hj f' hf'
                    have HFf := Lib.hid hf'
                    clear l12 g12 hf'
                    cases e2
                    have hjd : decide ((j : Int) < (l.length : Int)) = true := decide_eq_true (by omega)
                    have hjw : IntKind.i64.wrap ((j : Int) + 1) = (j : Int) + 1 := by rw [IntKind.wrap_i64]; omega
                    obtain ⟨aj, haj⟩ : ∃ aj, aj = at_.getD j 0 := ⟨_, rfl⟩
                    have HAj := Lib.hid haj
                    clear haj
                    go_upto_region 17 with (fail)
                    refine find.settle (p := fun W => Code.wp _ _ _ _ W) (R := fun W => Hid (Below w.heap.size w W) ∧ Hid (W.heap[w.heap.size]? = some (.cells (atA at_) 3 (0, 0))) ∧ Hid (W.heap[gE]? = some (.cells (evA e A11 c11) 128 (0, 0))) ∧ Hid (W.heap[wr.heap.size]? = some (.cells (evA f' A12 c12) 128 (0, 0)))) ⟨Lib.hid (below_alloc HB.out _), Lib.hid (blk_alloc HT.out _), Lib.hid (blk_alloc HZ.out _), Lib.hid (heap_alloc_new _ _)⟩ ?_
                    clear HB HT HZ x0 x1 x2 x3 x4 x5 x6 x7 x8 x9 x10 x11 x12
                    rintro w5 ⟨HB5, HT5, HZ5, HY5⟩
                    generalize wr.heap.size = gF at *
                    have HN1 : badI l at_ i j = false → Hid (∀ m, m < j + 1 → badI l at_ i m = false) := fun h => Lib.hid (fun m hm => by
                      rcases Nat.lt_or_ge m j with h1 | h1
                      · exact HN.out m h1
                      · obtain rfl : m = j := by omega
                        exact h)
                    have hbad : badI l at_ i j = (mustE e && decide (e.f3 < f'.f2) && decide (0 < aj) && decide (aj < ai)) := by unfold badI; rw [HAj.out, HAi.out, HE.out, HFf.out]
                    obtain ⟨C, hCd⟩ : ∃ C : World → Prop, C = fun W => Hid (Below w.heap.size w W) ∧ Hid (W.heap[w.heap.size]? = some (.cells (atA at_) 3 (0, 0))) ∧ Hid (W.heap[gE]? = some (.cells (evA e A11 c11) 128 (0, 0))) ∧ Hid (W.heap[gF]? = some (.cells (evA f' A12 c12) 128 (0, 0))) := ⟨_, rfl⟩
                    have hC0 : C w5 := by rw [hCd]; exact ⟨HB5, HT5, HZ5, HY5⟩
                    have hCb : ∀ W W', C W → Below W.heap.size W W' → C W' := by rw [hCd]; rintro W W' ⟨h1, h2, h3, h4⟩ hb; exact ⟨Lib.hid (below_step h1.out hb), Lib.hid (blk_below h2.out hb), Lib.hid (blk_below h3.out hb), Lib.hid (blk_below h4.out hb)⟩
                    have hfac : ∀ W, C W → W.cell? ⟨gE, 0, none⟩ = some (.int .i64 e.f0) ∧ W.cell? ⟨gE, 1, none⟩ = some (.int .u8 e.f1.f0) ∧ W.cell? ⟨gE, 2, none⟩ = some (.int .i64 e.f1.f1) ∧ W.cell? ⟨gE, 3, none⟩ = some (.int .i64 e.f1.f2) ∧ W.cell? ⟨gE, 4, none⟩ = some (.int .i64 e.f1.f3) ∧ W.cell? ⟨gE, 5, none⟩ = some (.int .i64 e.f2) ∧ W.cell? ⟨gE, 6, none⟩ = some (.int .i64 e.f3) ∧ W.cell? ⟨gE, 7, none⟩ = some (.int .i64 e.f4.f0) ∧ W.cell? ⟨gE, 8, none⟩ = some (.bool e.f4.f1) ∧ W.cell? ⟨gE, 9, none⟩ = some (.int .i64 e.f4.f2) ∧ W.cell? ⟨gE, 10, none⟩ = some (.int .i64 e.f4.f3) ∧ W.cell? ⟨gE, 11, none⟩ = some (.slice A11 e.f4.f4.length c11) ∧ W.cell? ⟨gE, 12, none⟩ = some (.bool e.f4.f5) ∧ W.cell? ⟨gF, 5, none⟩ = some (.int .i64 f'.f2) ∧ W.cell? ⟨w.heap.size, i, none⟩ = some (.int .i64 ai) ∧ W.cell? ⟨w.heap.size, j, none⟩ = some (.int .i64 aj) := by rw [hCd]; rintro W ⟨h1, h2, h3, h4⟩; obtain ⟨z0, z1, z2, z3, z4, z5, z6, z7, z8, z9, z10, z11, z12⟩ := ev_cells h3.out; obtain ⟨y0, y1, y2, y3, y4, y5, y6, y7, y8, y9, y10, y11, y12⟩ := ev_cells h4.out; exact ⟨z0, z1, z2, z3, z4, z5, z6, z7, z8, z9, z10, z11, z12, y5, by have := at_cell h2.out i (by omega); rwa [← HAi.out] at this, by have := at_cell h2.out j (by omega); rwa [← HAj.out] at this⟩
                    have hcm : ∀ W, Calls Try.prog 117 #[.agg (evA e A11 c11)] W fun e_ w' => e_ = .returned (.bool false) ∧ Below W.heap.size W w' := by intro W; have := evMust e A11 c11 W; rwa [hm] at this
                    have HCd := Lib.hid hCd
                    clear hCd HB5 HT5 HZ5 HY5
                    have HN2 := HN1 (by rw [hbad, hm]; rfl)
                    refine quiet_reg C hC0 hCb (by kernel_rfl) ?_
                    repeat (refine WQ_step (fun K hK => ?_); go_simp; first | (refine hK _ ?_; clear hK K) | (apply Exists.intro; refine ⟨fun W hW => ?_, hK _ ?_⟩; (first | rfl | exact ⟨rfl, rfl⟩ | (obtain ⟨q0, q1, q2, q3, q4, q5, q6, q7, q8, q9, q10, q11, q12, q13, q14, q15⟩ := hfac W hW; first | (go_simp; done) | (go_simp; rfl) | (go_simp; exact ⟨rfl, rfl⟩) | exact (hcm W).mono (by rintro e_ w_ ⟨rfl, hb_⟩; exact ⟨rfl, hCb W w_ hW hb_⟩))); clear hK K))
                    refine WQ_nil ?_
                    intro W7 hW7
                    rw [HCd.out] at hW7
                    obtain ⟨HB7, HT7, HZ7, HY7⟩ := hW7
                    go_wp2_with fail
                    go_roundg (l.length - (j + 1))
                    case rel => exact ⟨j + 1, by first | rfl | exact congrArg _ hjw | (simp [hjw]), by omega, by omega, HN2, HB7, HT7, HZ7⟩
                    all_goals omega
                  · obtain rfl : j = l.length := by omega
                    have hjd : decide ((l.length : Int) < (l.length : Int)) = false := decide_eq_false (by omega)
                    have HG2 : Hid (∀ m, m < i + 1 → goodI l at_ m) := Lib.hid (fun m hm => by
                      rcases Nat.lt_or_ge m i with h1 | h1
                      · exact HG.out m h1
                      · obtain rfl : m = i := by omega
                        exact ⟨hout', HN.out⟩)
                    go_wp2_with fail
                    go_roundg (l.length - (i + 1))
                    case rel => exact ⟨i + 1, by first | rfl | exact congrArg _ hiw | (simp [hiw]), by omega, by omega, HG2, HB, HT⟩
                    all_goals omega
          · obtain rfl : i = l.length := by omega
            have hid : decide ((l.length : Int) < (l.length : Int)) = false := decide_eq_false (by omega)
            have h := H2.out
            rw [if_pos (ph2_yes l at_ HG.out)] at h
            have H3 := Lib.hid h
            clear h H2 HG
            go_upto_region 22 with (go_at_call 99; refine Calls.mono (leaf_Pair_99.calls A0 c0 l0 l0 _ (Kd.C_below HR0.out HB.out) HC0.out (by unfold leaf_Pair_99.f; rw [if_pos hl0])) ?_; rintro e_ w2 ⟨v0, rfl, hO, hb⟩; obtain ⟨Ap, cp, ep⟩ := Kd.R_slice hO; subst ep; have HP := Lib.hid (Kd.R_reads' hO).2; have HB2 := Lib.hid (below_step HB.out hb); clear hO hb)
            go_wp2_with fail
            go_loopg [113, 14] order.length (fun gk v113 v14 W => ∃ (kk : Nat) (p : List S40) (Ap : Option Addr) (cp : Nat), v113 = .int .i64 (kk : Int) ∧ v14 = .slice Ap p.length cp ∧ kk ≤ order.length ∧ order.length - kk ≤ gk ∧ Hid (ph3 k l p (order.drop kk) = some r) ∧ Hid (p.length ≤ cp ∧ Kd.C k40 W Ap p.length p) ∧ Hid (Below w.heap.size w W))
            case atStart => exact ⟨0, l0, Ap, cp, rfl, rfl, by omega, by omega, by rw [List.drop_zero]; exact H3, HP, HB2⟩
            case round =>
              clear H3 HP HB HB2 HT
              obtain ⟨kk, p, Ap, cp, rfl, rfl, hk1, hgk, H3, HP, HB⟩ := hrel
              by_cases hkk : kk < order.length
              · obtain ⟨ad2, e2, y0⟩ := Kd.at_int (Kd.C_below HR2.out HB.out) (kk : Int) (by omega) (by omega)
                cases e2
                rw [Int.toNat_natCast] at y0
                obtain ⟨ii, hie⟩ : ∃ ii, ii = rd order (kk : Int) := ⟨_, rfl⟩
                rw [← hie] at y0
                have hii : ii ∈ order := by rw [hie]; simp [rd, hkk]
                have hdrop : order.drop kk = ii :: order.drop (kk + 1) := by
                  rw [List.drop_eq_getElem_cons hkk, hie]
                  simp [rd, hkk]
                have hkd : decide ((kk : Int) < (order.length : Int)) = true := decide_eq_true (by omega)
                have hkw : IntKind.i64.wrap ((kk : Int) + 1) = (kk : Int) + 1 := by
                  have := C_len HR2.out
                  rw [IntKind.wrap_i64]; omega
                have h := H3.out
                rw [hdrop] at h
                simp only [ph3] at h
                obtain ⟨hv1, hv2⟩ := hvo ii hii
                clear H3 hdrop hie hii
                obtain ⟨j, rfl⟩ := Int.eq_ofNat_of_zero_le hv1
                rw [Int.toNat_natCast] at h
                have hj : j < l.length := by omega
                have hjc : decide ((j : Int) < (l.length : Int)) = true := decide_eq_true (by omega)
                obtain ⟨e, he⟩ : ∃ e, e = rd_T128 l (j : Int) := ⟨_, rfl⟩
                have hli : l[j]? = some e := by rw [he]; simp [rd_T128, hj]
                obtain ⟨ad, A11, c11, e1, x0, x1, x2, x3, x4, x5, x6, x7, x8, x9, x10, x11, x12, l11, g11⟩ := ev_at HR1.out (Below.refl _ _) j hj e he
                have HX := Lib.hid (And.intro x0 (And.intro x1 (And.intro x2 (And.intro x3 (And.intro x4 (And.intro x5 (And.intro x6 (And.intro x7 (And.intro x8 (And.intro x9 (And.intro x10 (And.intro x11 x12))))))))))))
                have HE := Lib.hid (And.intro l11 g11)
                have tB : ∀ a v, w.cell? a = some v → wr.cell? a = some v := fun a v hx => (HB.out.cell (World.block_lt_of_cell? w _ hx)).trans hx
                have b1 := tB _ _ x1
                have b2 := tB _ _ x2
                have b3 := tB _ _ x3
                have b4 := tB _ _ x4
                clear l11 g11 he tB x0 x1 x2 x3 x4 x5 x6 x7 x8 x9 x10 x11 x12
                cases e1
                obtain ⟨xo, hxo, hr⟩ := Option.bind_eq_some_iff.1 h
                simp only [stepF, hli, stepE] at hxo
                obtain ⟨⟨a1, a2, a3, a4, a5, a6, a7⟩, ha, hxo⟩ := Option.bind_eq_some_iff.1 hxo
                dsimp only at hxo
                have hlen : a1.length < 8796093022208 := by
                  by_cases hq : a1.length < 8796093022208
                  · exact hq
                  · rw [if_neg hq] at hxo; cases hxo
                rw [if_pos hlen] at hxo
                have HXo := Lib.hid hxo
                have HRo := Lib.hid hr
                have HA := Lib.hid ha
                clear h hxo hr ha
                go_upto_region 26 with (go_at_call 74; refine Calls.mono (model_Apply.calls k Ap cp p e.f1.f0 e.f1.f1 e.f1.f2 e.f1.f3 a1 a2 a3 a4 a5 a6 a7 _ HP.out.2 HP.out.1 HA.out) ?_; rintro e_ wT ⟨v0, v5, rfl, hO1, hO2, hb⟩; obtain ⟨Ax, cx, ex⟩ := Kd.R_slice hO1; subst ex; obtain ⟨Ay, cy, ey⟩ := Kd.R_slice hO2; subst ey; have HBT := Lib.hid (below_step HB.out hb); have HPT := Lib.hid (Kd.R_reads' hO1).2; have HYT := Lib.hid (Kd.R_reads' hO2).2; clear hO1 hO2 hb)
                obtain ⟨hq1, hq2⟩ := HPT.out
                obtain ⟨hq3, hq4⟩ := HYT.out
                refine find.settle (p := fun W => Code.wp _ _ _ _ W) (R := fun W => Hid (Below w.heap.size w W) ∧ Hid (W.heap[wT.heap.size]? = some (.cells #[.int .i64 a2, .bool a3, .int .i64 a4, .int .i64 a5, .slice Ay a6.length cy, .bool a7] 84 (0, 0))) ∧ Hid (a6.length ≤ cy ∧ Kd.C k40 W Ay a6.length a6) ∧ Hid (a1.length ≤ cx ∧ Kd.C k40 W Ax a1.length a1)) ⟨Lib.hid (below_alloc HBT.out _), Lib.hid (heap_alloc_new _ _), Lib.hid ⟨hq3, Kd.C_alloc hq4 _⟩, Lib.hid ⟨hq1, Kd.C_alloc hq2 _⟩⟩ ?_
                clear HB HBT HPT HYT HP hq1 hq2 hq3 hq4 b1 b2 b3 b4
                rintro w5 ⟨HB5, HT5, HY5, HP5⟩
                generalize wT.heap.size = gA at *
                obtain ⟨C, hCd⟩ : ∃ C : World → Prop, C = fun W => Hid (Below w.heap.size w W) ∧ Hid (W.heap[gA]? = some (.cells #[.int .i64 a2, .bool a3, .int .i64 a4, .int .i64 a5, .slice Ay a6.length cy, .bool a7] 84 (0, 0))) ∧ Hid (a6.length ≤ cy ∧ Kd.C k40 W Ay a6.length a6) ∧ Hid (a1.length ≤ cx ∧ Kd.C k40 W Ax a1.length a1) := ⟨_, rfl⟩
                have hC0 : C w5 := by rw [hCd]; exact ⟨HB5, HT5, HY5, HP5⟩
                have hCb : ∀ W W', C W → Below W.heap.size W W' → C W' := by rw [hCd]; rintro W W' ⟨h1, h2, h3, h4⟩ hb; exact ⟨Lib.hid (below_step h1.out hb), Lib.hid (blk_below h2.out hb), Lib.hid ⟨h3.out.1, Kd.C_below h3.out.2 hb⟩, Lib.hid ⟨h4.out.1, Kd.C_below h4.out.2 hb⟩⟩
                have hfac : ∀ W, C W → W.cell? (ad.add (j * 13)) = some (.int .i64 e.f0) ∧ W.cell? ⟨(ad.add (j * 13)).block, (ad.add (j * 13)).off + 1, none⟩ = some (.int .u8 e.f1.f0) ∧ W.cell? ⟨(ad.add (j * 13)).block, (ad.add (j * 13)).off + 2, none⟩ = some (.int .i64 e.f1.f1) ∧ W.cell? ⟨(ad.add (j * 13)).block, (ad.add (j * 13)).off + 3, none⟩ = some (.int .i64 e.f1.f2) ∧ W.cell? ⟨(ad.add (j * 13)).block, (ad.add (j * 13)).off + 4, none⟩ = some (.int .i64 e.f1.f3) ∧ W.cell? ⟨(ad.add (j * 13)).block, (ad.add (j * 13)).off + 5, none⟩ = some (.int .i64 e.f2) ∧ W.cell? ⟨(ad.add (j * 13)).block, (ad.add (j * 13)).off + 6, none⟩ = some (.int .i64 e.f3) ∧ W.cell? ⟨(ad.add (j * 13)).block, (ad.add (j * 13)).off + 7, none⟩ = some (.int .i64 e.f4.f0) ∧ W.cell? ⟨(ad.add (j * 13)).block, (ad.add (j * 13)).off + 8, none⟩ = some (.bool e.f4.f1) ∧ W.cell? ⟨(ad.add (j * 13)).block, (ad.add (j * 13)).off + 9, none⟩ = some (.int .i64 e.f4.f2) ∧ W.cell? ⟨(ad.add (j * 13)).block, (ad.add (j * 13)).off + 10, none⟩ = some (.int .i64 e.f4.f3) ∧ W.cell? ⟨(ad.add (j * 13)).block, (ad.add (j * 13)).off + 11, none⟩ = some (.slice A11 e.f4.f4.length c11) ∧ W.cell? ⟨(ad.add (j * 13)).block, (ad.add (j * 13)).off + 12, none⟩ = some (.bool e.f4.f5) ∧ W.cell? ⟨gA, 0, none⟩ = some (.int .i64 a2) ∧ W.cell? ⟨gA, 1, none⟩ = some (.bool a3) ∧ W.cell? ⟨gA, 2, none⟩ = some (.int .i64 a4) ∧ W.cell? ⟨gA, 3, none⟩ = some (.int .i64 a5) ∧ W.cell? ⟨gA, 4, none⟩ = some (.slice Ay a6.length cy) ∧ W.cell? ⟨gA, 5, none⟩ = some (.bool a7) := by rw [hCd]; rintro W ⟨h1, h2, h3, h4⟩; obtain ⟨x0, x1, x2, x3, x4, x5, x6, x7, x8, x9, x10, x11, x12⟩ := HX.out; have t : ∀ a v, w.cell? a = some v → W.cell? a = some v := fun a v hx => (h1.out.cell (World.block_lt_of_cell? w _ hx)).trans hx; exact ⟨t _ _ x0, t _ _ x1, t _ _ x2, t _ _ x3, t _ _ x4, t _ _ x5, t _ _ x6, t _ _ x7, t _ _ x8, t _ _ x9, t _ _ x10, t _ _ x11, t _ _ x12, (blk_cell h2.out 0).trans rfl, (blk_cell h2.out 1).trans rfl, (blk_cell h2.out 2).trans rfl, (blk_cell h2.out 3).trans rfl, (blk_cell h2.out 4).trans rfl, (blk_cell h2.out 5).trans rfl⟩
                have hcs0 : ∀ s, model_Same.f k a2 a3 a4 a5 a6 a7 e.f4.f0 e.f4.f1 e.f4.f2 e.f4.f3 e.f4.f4 e.f4.f5 = some s → ∀ W, C W → Calls Try.prog 81 #[.agg #[.int .i64 a2, .bool a3, .int .i64 a4, .int .i64 a5, .slice Ay a6.length cy, .bool a7], .agg #[.int .i64 e.f4.f0, .bool e.f4.f1, .int .i64 e.f4.f2, .int .i64 e.f4.f3, .slice A11 e.f4.f4.length c11, .bool e.f4.f5]] W fun e_ w' => e_ = .returned (.bool s) ∧ Below W.heap.size W w' := by rw [hCd]; rintro s hs W ⟨h1, h2, h3, h4⟩; exact model_Same.calls k a2 a3 a4 a5 Ay cy a6 a7 e.f4.f0 e.f4.f1 e.f4.f2 e.f4.f3 A11 c11 e.f4.f4 e.f4.f5 s W h3.out.2 h3.out.1 (Kd.C_below HE.out.2 h1.out) HE.out.1 hs
                have HCd := Lib.hid hCd
                clear hCd HB5 HT5 HY5 HP5
                have hxo := HXo.out
                have hr := HRo.out
                clear HXo HRo
                by_cases h0 : 0 ≤ e.f3
                · have hcm : ∀ W, Calls Try.prog 96 #[.agg (evA e A11 c11)] W fun e_ w' => e_ = .returned (.bool true) ∧ Below W.heap.size W w' := by intro W; have := evAns e A11 c11 W; rwa [decide_eq_true h0] at this
                  rw [if_pos h0] at hxo
                  obtain ⟨sm, hsm, hxo⟩ := Option.bind_eq_some_iff.1 hxo
                  have hcs := hcs0 sm hsm
                  obtain rfl := Option.some.inj hxo
                  clear hsm hxo hcs0
                  cases sm with
                  | false =>
                    simp only [Bool.false_eq_true, if_false] at hr
                    obtain rfl := Option.some.inj hr
                    clear hr
                    refine quiet_reg C hC0 hCb (by kernel_rfl) ?_
                    repeat (refine WQ_step (fun K hK => ?_); go_simp; first | (refine hK _ ?_; clear hK K) | (apply Exists.intro; refine ⟨fun W hW => ?_, hK _ ?_⟩; (first | rfl | exact ⟨rfl, rfl⟩ | (obtain ⟨q0, q1, q2, q3, q4, q5, q6, q7, q8, q9, q10, q11, q12, q13, q14, q15, q16, q17, q18⟩ := hfac W hW; first | (go_simp; done) | (go_simp; rfl) | (go_simp; exact ⟨rfl, rfl⟩) | exact (hcm W).mono (by rintro e_ w_ ⟨rfl, hb_⟩; exact ⟨rfl, hCb W w_ hW hb_⟩) | exact (hcs W hW).mono (by rintro e_ w_ ⟨rfl, hb_⟩; exact ⟨rfl, hCb W w_ hW hb_⟩))); clear hK K))
                    refine WQ_nil ?_
                    intro W7 hW7
                    rw [HCd.out] at hW7
                    obtain ⟨HB7, HT7, HY7, HP7⟩ := hW7
                    go_wp2_with fail
                    go_ret
                    exact ⟨rfl, HB7.out⟩
                  | true =>
                    simp only [if_true] at hr
                    have HG1 := Lib.hid hr
                    clear hr
                    refine quiet_reg C hC0 hCb (by kernel_rfl) ?_
                    repeat (refine WQ_step (fun K hK => ?_); go_simp; first | (refine hK _ ?_; clear hK K) | (apply Exists.intro; refine ⟨fun W hW => ?_, hK _ ?_⟩; (first | rfl | exact ⟨rfl, rfl⟩ | (obtain ⟨q0, q1, q2, q3, q4, q5, q6, q7, q8, q9, q10, q11, q12, q13, q14, q15, q16, q17, q18⟩ := hfac W hW; first | (go_simp; done) | (go_simp; rfl) | (go_simp; exact ⟨rfl, rfl⟩) | exact (hcm W).mono (by rintro e_ w_ ⟨rfl, hb_⟩; exact ⟨rfl, hCb W w_ hW hb_⟩) | exact (hcs W hW).mono (by rintro e_ w_ ⟨rfl, hb_⟩; exact ⟨rfl, hCb W w_ hW hb_⟩))); clear hK K))
                    refine WQ_nil ?_
                    intro W7 hW7
                    rw [HCd.out] at hW7
                    obtain ⟨HB7, HT7, HY7, HP7⟩ := hW7
                    go_wp2_with fail
                    go_roundg (order.length - (kk + 1))
                    case rel => exact ⟨kk + 1, a1, Ax, cx, by first | rfl | exact congrArg _ hkw | (simp [hkw]), rfl, by omega, by omega, HG1, HP7, HB7⟩
                    all_goals omega
                · have hcm : ∀ W, Calls Try.prog 96 #[.agg (evA e A11 c11)] W fun e_ w' => e_ = .returned (.bool false) ∧ Below W.heap.size W w' := by intro W; have := evAns e A11 c11 W; rwa [decide_eq_false h0] at this
                  have hcs : True := trivial
                  rw [if_neg h0] at hxo
                  obtain rfl := Option.some.inj hxo
                  dsimp only at hr
                  have HG1 := Lib.hid hr
                  clear hr hxo hcs0
                  refine quiet_reg C hC0 hCb (by kernel_rfl) ?_
                  repeat (refine WQ_step (fun K hK => ?_); go_simp; first | (refine hK _ ?_; clear hK K) | (apply Exists.intro; refine ⟨fun W hW => ?_, hK _ ?_⟩; (first | rfl | exact ⟨rfl, rfl⟩ | (obtain ⟨q0, q1, q2, q3, q4, q5, q6, q7, q8, q9, q10, q11, q12, q13, q14, q15, q16, q17, q18⟩ := hfac W hW; first | (go_simp; done) | (go_simp; rfl) | (go_simp; exact ⟨rfl, rfl⟩) | exact (hcm W).mono (by rintro e_ w_ ⟨rfl, hb_⟩; exact ⟨rfl, hCb W w_ hW hb_⟩) | exact (hcs W hW).mono (by rintro e_ w_ ⟨rfl, hb_⟩; exact ⟨rfl, hCb W w_ hW hb_⟩))); clear hK K))
                  refine WQ_nil ?_
                  intro W7 hW7
                  rw [HCd.out] at hW7
                  obtain ⟨HB7, HT7, HY7, HP7⟩ := hW7
                  go_wp2_with fail
                  go_roundg (order.length - (kk + 1))
                  case rel => exact ⟨kk + 1, a1, Ax, cx, by first | rfl | exact congrArg _ hkw | (simp [hkw]), rfl, by omega, by omega, HG1, HP7, HB7⟩
                  all_goals omega
              · obtain rfl : kk = order.length := by omega
                have hkd : decide ((order.length : Int) < (order.length : Int)) = false := decide_eq_false (by omega)
                have h := H3.out
                rw [List.drop_length] at h
                simp only [ph3] at h
                obtain rfl := Option.some.inj h
                clear h H3
                go_wp2_with fail
                go_ret
                exact ⟨rfl, HB.out⟩
  · rw [if_neg hlim] at h
    cases h
end Go.Proofs.Ytkoiffkonjpoiaa.Q
