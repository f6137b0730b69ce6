/- The walk of InnerKeeps, by hand: what the law does in memory, told by a plain function; under the contract's own conditions alone. -/
import Derived.Test.YtkoiffkonjpoiaaQM1
import Derived.Test.YtkoiffkonjpoiaaQM2
import Derived.Test.YtkoiffkonjpoiaaQM3
import Derived.Test.YtkoiffkonjpoiaaQ0
namespace Go.Proofs.Ytkoiffkonjpoiaa.Q
open Go.RowKit Go.Proofs.YtkoiffkonjpoiaaW.PrintWords Go.Proofs.YtkoiffkonjpoiaaW.PrintLast Go.Proofs.YtkoiffkonjpoiaaW.PrintMore Go.Proofs.YtkoiffkonjpoiaaX
attribute [local go_sem] max2_int min2_int max_two min_two max_three min_three max_four min_four   -- for this text's walks alone
set_option linter.unusedVariables false
set_option linter.unusedSimpArgs false
def boscagelaw03_InnerKeeps.f (k : Nat) (l0 : List Int) (a1 a2 : Int) : Option Bool := (boscagelaw03_Awake.f k).bind fun t => if t = true then (if (l0.length : Int) > 40 then some true else (boscagelaw03_Of.f k l0 1).bind fun b => if boscagelaw03_Copy.f b.1 b.2 = some (b.1, b.2) ∧ b.2.length = b.1.length + 1 ∧ b.2.length < 1000 then ((inner_Inner_Halves.f k b.1 b.2).bind fun _ => (inner_Inner_With.f b.1 b.2 (Int.tmod (wrap64 a1) (b.2.length : Int)) 9).bind fun _ => (inner_Inner_Absorb.f k b.1 b.2 (Int.tmod (wrap64 a1) (b.2.length : Int)) b.1 b.2).bind fun _ => (inner_Inner_Join.f b.1 b.2 a2 b.1 b.2).bind fun _ => (inner_Inner_Merged.f k b.1 b.2 (Int.tmod (wrap64 a1) (b.2.length : Int)) 9).bind fun _ => (inner_Inner_Turned.f b.1 b.2 (Int.tmod (wrap64 a1) (b.2.length : Int)) 8 a2 9).bind fun _ => boscagelaw03_Same.f k b.1 b.2 b.1 b.2) else none) else some false
theorem InnerKeeps.settle {p : World → Prop} {w : World} (R : World → Prop) (h : R w) (k : ∀ W, R W → p W) : p w := k w h
/-- A row of memory of its own, of elements of type E, from block B on. -/
def InnerKeeps.Good (E B : Nat) (W : World) (v : Value) : Prop := ∃ A n c, v = .slice A n c ∧ n ≤ 9223372036854775807 ∧ (n = 0 ∨ ∃ g cur, A = some ⟨g, 0, none⟩ ∧ B ≤ g ∧ W.heap[g]? = some (.cells cur E (0, 0)) ∧ n ≤ cur.size)
theorem InnerKeeps.Good.ofR {E B base : Nat} {W : World} {ok : Nat → Prop} {v : Value} {xs : List Int} (hB : B ≤ base) (h : Kd.R (Kd.int .i64) E W base ok v xs) : InnerKeeps.Good E B W v := by
  obtain ⟨_, _, hv⟩ := (R_iff (flat_int .i64)).1 h
  rcases hv with ⟨rfl, h0⟩ | ⟨g, cap, cur, rfl, hb, hg, hn, hm, hs, _⟩
  · exact ⟨none, 0, 0, rfl, by omega, .inl rfl⟩
  · have hm' : cap ≤ 9223372036854775807 := by simpa [maxLen] using hm
    have hs' : cur.size = cap := by rw [hs]; exact Nat.mul_one _
    exact ⟨_, xs.length, cap, rfl, by omega, .inr ⟨g, cur, rfl, by omega, hg, by omega⟩⟩
theorem InnerKeeps.Good.below {E B : Nat} {W W' : World} {v : Value} (h : InnerKeeps.Good E B W v) (hb : Below W.heap.size W W') : InnerKeeps.Good E B W' v := by
  obtain ⟨A, n, c, h0, hn, h | ⟨g, cur, h1, h2, h5, h6⟩⟩ := h
  · exact ⟨A, n, c, h0, hn, .inl h⟩
  · exact ⟨A, n, c, h0, hn, .inr ⟨g, cur, h1, h2, (hb.block g (Array.getElem?_eq_some_iff.1 h5).1).trans h5, h6⟩⟩
theorem InnerKeeps.Good.set {E B : Nat} {W : World} {v : Value} (h : InnerKeeps.Good E B W v) (b i : Nat) (u : Value) : InnerKeeps.Good E B (W.setCell ⟨b, i, none⟩ u) v := by
  obtain ⟨A, n, c, h0, hn, h | ⟨g, cur, h1, h2, h5, h6⟩⟩ := h
  · exact ⟨A, n, c, h0, hn, .inl h⟩
  · by_cases hgb : g = b
    · subst hgb
      exact ⟨A, n, c, h0, hn, .inr ⟨g, _, h1, h2, setCell_heap_at W g i u h5, by simpa using h6⟩⟩
    · exact ⟨A, n, c, h0, hn, .inr ⟨g, cur, h1, h2, (Below.heap_setCell W _ u g hgb).trans h5, h6⟩⟩
/-- The block that holds the pages: each page's two rows are Good. -/
def InnerKeeps.Lits (B gl : Nat) (W : World) : Prop := ∃ cur, W.heap[gl]? = some (.cells cur 26 (0, 0)) ∧ ∀ (i : Nat), i < 7 → ∃ a b, cur.toList[i * 2]? = some a ∧ cur.toList[i * 2 + 1]? = some b ∧ InnerKeeps.Good 2 B W a ∧ InnerKeeps.Good 47 B W b
theorem InnerKeeps.Lits.set {B gl g : Nat} {W : World} (h : InnerKeeps.Lits B gl W) (hne : gl ≠ g) (i : Nat) (u : Value) : InnerKeeps.Lits B gl (W.setCell ⟨g, i, none⟩ u) := by
  obtain ⟨cur, h1, h3⟩ := h
  refine ⟨cur, (Below.heap_setCell W _ u gl hne).trans h1, fun j hj => ?_⟩
  obtain ⟨a, b, q1, q2, q3, q4⟩ := h3 j hj
  exact ⟨a, b, q1, q2, q3.set g i u, q4.set g i u⟩
theorem InnerKeeps.Lits.below {B gl : Nat} {W W' : World} (h : InnerKeeps.Lits B gl W) (hb : Below W.heap.size W W') : InnerKeeps.Lits B gl W' := by
  obtain ⟨cur, h1, h3⟩ := h
  refine ⟨cur, blk_below h1 hb, fun j hj => ?_⟩
  obtain ⟨a, b, q1, q2, q3, q4⟩ := h3 j hj
  exact ⟨a, b, q1, q2, q3.below hb, q4.below hb⟩
theorem InnerKeeps.blk_ne {g g' : Nat} {W : World} {cur cur' : Array Value} {E : Nat} (h : W.heap[g]? = some (.cells cur 26 (0, 0))) (h' : W.heap[g']? = some (.cells cur' E (0, 0))) (hE : E ≠ 26) : g ≠ g' := by
  rintro rfl
  have h2 := h.symm.trans h'
  simp at h2
  exact hE h2.2.symm
theorem InnerKeeps.Lits.ne {B gl g : Nat} {W : World} {cur : Array Value} {E : Nat} (h : InnerKeeps.Lits B gl W) (hg : W.heap[g]? = some (.cells cur E (0, 0))) (hE : E ≠ 26) : gl ≠ g := by
  obtain ⟨_, h1, _⟩ := h
  exact InnerKeeps.blk_ne h1 hg hE
theorem InnerKeeps.at1 {w W : World} {g : Nat} {xs : List Int} {x : Int} {j : Nat} (h : Kd.C (Kd.int .i64) w (some ⟨g, 0, none⟩) xs.length xs) (hj : xs[j]? = some x) (hb : Below w.heap.size w W) : W.cell? ⟨g, j, none⟩ = some (.int .i64 x) := by
  have hg := flatMap_get (flat_int .i64) xs j 0 x (.int .i64 x) hj rfl
  have e : j * (Kd.int .i64).sz + 0 = j := Nat.mul_one j
  rw [e] at hg
  rcases C_at (flat_int .i64) (Kd.C_below h hb) with h0 | ⟨b, o, hA, hc⟩
  · rw [h0] at hg
    cases hg
  · obtain ⟨rfl, rfl⟩ : g = b ∧ 0 = o := by simpa using hA
    have := hc j _ hg
    rwa [Nat.zero_add] at this
theorem InnerKeeps.C_pre {w : World} {A : Option Addr} {xs ys : List Int} (hm : (xs ++ ys).length ≤ 9223372036854775807) (h : Kd.C (Kd.int .i64) w A (xs ++ ys).length (xs ++ ys)) : Kd.C (Kd.int .i64) w A xs.length xs := by
  have hm' : xs.length ≤ 9223372036854775807 := by simp at hm; omega
  refine (C_iff (flat_int .i64) hm').2 ?_
  rcases (C_iff (flat_int .i64) hm).1 h with h0 | ⟨b, o, hA, hc⟩
  · rw [List.flatMap_append] at h0
    exact .inl (List.append_eq_nil_iff.1 h0).1
  · refine .inr ⟨b, o, hA, fun j u hj => hc j u ?_⟩
    rw [List.flatMap_append, List.getElem?_append_left (List.getElem?_eq_some_iff.1 hj).1]
    exact hj
set_option maxHeartbeats 8000000 in
set_option maxRecDepth 100000 in
theorem boscagelaw03_InnerKeeps.calls (k : Nat) (A0 : Option Addr) (c0 : Nat) (l0 : List Int) (a1 a2 : Int) (r : Bool) (w : World) (hr0 : Kd.C (Kd.int .i64) w A0 l0.length l0) (hc0 : l0.length ≤ c0) (h : boscagelaw03_InnerKeeps.f k l0 a1 a2 = some r) :
    Calls Try.prog 30 #[.slice A0 l0.length c0, .int .u8 a1, .int .i64 a2] w fun e w' => e = .returned (.bool r) ∧ Below w.heap.size w w' := by
  have hu26 := Try.underlying26
  have HR0 := Lib.hid hr0
  have HC0 := Lib.hid hc0
  clear hr0 hc0
  unfold boscagelaw03_InnerKeeps.f at h
  obtain ⟨tA, hA, h⟩ := Option.bind_eq_some_iff.mp h
  have HA := Lib.hid hA
  clear hA
  cases tA with
  | false =>
    rw [if_neg (by decide)] at h
    obtain rfl := Option.some.inj h
    clear h
    go_enter Try.func30, Try.ntmps30
    go_wp2_with (go_at_call 38; refine (boscagelaw03_Awake.calls k false _ HA.out).mono ?_; rintro e w1 ⟨rfl, hb⟩)
    go_ret
    exact ⟨rfl, hb⟩
  | true =>
    rw [if_pos rfl] at h
    by_cases h40 : (l0.length : Int) > 40
    · rw [if_pos h40] at h
      obtain rfl := Option.some.inj h
      clear h
      have hd : decide (40 < (l0.length : Int)) = true := decide_eq_true h40
      have hd1 : decide (40 < l0.length) = true := decide_eq_true (by omega)
      clear h40
      go_enter Try.func30, Try.ntmps30
      go_wp2_with (go_at_call 38; refine (boscagelaw03_Awake.calls k true _ HA.out).mono ?_; rintro e w1 ⟨rfl, hb⟩)
      go_ret
      exact ⟨rfl, hb⟩
    · rw [if_neg h40] at h
      have hd : decide (40 < (l0.length : Int)) = false := decide_eq_false h40
      have hd1 : decide (40 < l0.length) = false := decide_eq_false (by omega)
      clear h40
      obtain ⟨⟨K, L⟩, hL, h⟩ := Option.bind_eq_some_iff.mp h
      have HL := Lib.hid hL
      clear hL
      dsimp only at h
      split at h
      · rename_i hcond
        obtain ⟨hCp, hKL, hlen⟩ := hcond
        obtain ⟨⟨h1, h2, h3, h4, h5⟩, hH, h⟩ := Option.bind_eq_some_iff.mp h
        obtain ⟨⟨i1, i2⟩, hI, h⟩ := Option.bind_eq_some_iff.mp h
        obtain ⟨⟨b1, b2⟩, hBb, h⟩ := Option.bind_eq_some_iff.mp h
        obtain ⟨⟨j1, j2⟩, hJ, h⟩ := Option.bind_eq_some_iff.mp h
        obtain ⟨⟨m1, m2⟩, hM, h⟩ := Option.bind_eq_some_iff.mp h
        obtain ⟨⟨t1, t2⟩, hT, h⟩ := Option.bind_eq_some_iff.mp h
        have HCp := Lib.hid hCp
        have HH := Lib.hid hH
        have HI := Lib.hid hI
        have HBb := Lib.hid hBb
        have HJ := Lib.hid hJ
        have HM := Lib.hid hM
        have HT := Lib.hid hT
        have HSm := Lib.hid h
        clear hCp hH hI hBb hJ hM hT h
        have HKL := Lib.hid hKL
        have hk1 : K.length < 1000 := by omega
        clear hKL
        go_enter Try.func30, Try.ntmps30
        go_upto_region 6 with (first | (go_at_call 38; refine (boscagelaw03_Awake.calls k true _ HA.out).mono ?_; rintro e w1 ⟨rfl, hb1⟩; have HB1 := Lib.hid hb1; clear hb1) | (go_at_call 39; refine (boscagelaw03_Of.calls k _ _ l0 1 K L _ ?_ HC0.out HL.out).mono ?_; (exact Kd.C_below HR0.out HB1.out); rintro e w2 ⟨vK, vL, rfl, ho, ho2, hb2⟩; obtain ⟨AK, cK, eK⟩ := Kd.R_slice ho; subst eK; obtain ⟨AL, cL, eL⟩ := Kd.R_slice ho2; subst eL; have CK := Lib.hid (Kd.R_reads' ho).2; have CL := Lib.hid (Kd.R_reads' ho2).2; have HB2 := Lib.hid (below_step HB1.out hb2); clear ho ho2 hb2))
        have hc : ∀ X, Below w2.heap.size w2 (w2.alloc X) := fun X => (Below.refl _ _).alloc (Nat.le_refl _) _
        refine InnerKeeps.settle (p := fun W => Code.wp _ _ _ _ W) (R := fun W => Hid (W.heap[w2.heap.size]? = some (.cells #[.slice AK K.length cK, .slice AL L.length cL] 26 (0, 0))) ∧ Hid (Kd.C (Kd.int .i64) W AK K.length K) ∧ Hid (Kd.C (Kd.int .i64) W AL L.length L) ∧ Hid (Below w.heap.size w W)) ⟨Lib.hid (heap_alloc_new w2 _), Lib.hid (Kd.C_below CK.out.2 (hc _)), Lib.hid (Kd.C_below CL.out.2 (hc _)), Lib.hid (below_step HB2.out (hc _))⟩ ?_
        clear hc HB2
        rintro wA ⟨X7, KA, LA, BA⟩
        have e0 : wA.cell? ⟨w2.heap.size, 0, none⟩ = some (.slice AK K.length cK) := (blk_cell X7.out 0).trans rfl
        have e1 : wA.cell? ⟨w2.heap.size, 1, none⟩ = some (.slice AL L.length cL) := (blk_cell X7.out 1).trans rfl
        go_upto_region 7 with (go_at_call 49; refine (boscagelaw03_Copy.calls _ _ K _ _ L K L _ ?_ CK.out.1 ?_ CL.out.1 HCp.out).mono ?_; (exact KA.out); (exact LA.out); rintro e w4 ⟨vK2, vL2, rfl, ho, ho2, hb⟩; obtain ⟨A2, c2, e2⟩ := Kd.R_slice ho; subst e2; obtain ⟨A3, c3, e3⟩ := Kd.R_slice ho2; subst e3; have O2 := Lib.hid ho; have O3 := Lib.hid ho2; have B4 := Lib.hid hb; clear ho ho2 hb)
        refine InnerKeeps.settle (p := fun W => Code.wp _ _ _ _ W) (R := fun W => Hid (W.heap[w4.heap.size]? = some (.cells #[.slice A2 K.length c2, .slice A3 L.length c3] 26 (0, 0))) ∧ Hid (Kd.R (Kd.int .i64) 2 W wA.heap.size (fun _ => True) (.slice A2 K.length c2) K) ∧ Hid (Kd.R (Kd.int .i64) 47 W wA.heap.size (fun _ => True) (.slice A3 L.length c3) L) ∧ Hid (Below wA.heap.size wA W) ∧ Hid (wA.heap.size ≤ w4.heap.size)) ⟨Lib.hid (heap_alloc_new w4 _), Lib.hid (by apply Kd.R_alloc; exact O2.out), Lib.hid (by apply Kd.R_alloc; exact O3.out), Lib.hid (below_alloc B4.out _), Lib.hid B4.out.size⟩ ?_
        clear O2 O3 B4 e0 e1
        rintro wB ⟨X8, O2, O3, BB, G8⟩
        have f0 : wB.cell? ⟨w4.heap.size, 0, none⟩ = some (.slice A2 K.length c2) := (blk_cell X8.out 0).trans rfl
        have f1 : wB.cell? ⟨w4.heap.size, 1, none⟩ = some (.slice A3 L.length c3) := (blk_cell X8.out 1).trans rfl
        go_upto_region 8 with (first | ((with_reducible refine gate_dst (N := 30) rfl ?_); (try (refine gate_guard (by rfl) ?_; dsimp only)); refine Kd.R_lit (Kd.int .i64) _ 2 ?hg (N := 30) ?hd (xs := ([1, 2, 3] : List Int)) (inner := [.int .i64 1, .int .i64 2, .int .i64 3]) (ok := fun _ => True) (okp := fun _ => True) ?hr ?hp (fun _ hk => hk) trivial (Below.refl _ _) (Nat.le_refl _) (by simp) ?_; (case hd => rfl); (case hg => rfl); (case hr => first | (go_simp; done) | (go_simp; rfl)); (case hp => exact (Reps.one (show Kd.M (Kd.int .i64) _ _ _ (1 : Int) [.int .i64 1] from rfl) (Reps.one (show Kd.M (Kd.int .i64) _ _ _ (2 : Int) [.int .i64 2] from rfl) (Reps.one (show Kd.M (Kd.int .i64) _ _ _ (3 : Int) [.int .i64 3] from rfl) (Reps.none _ _))))); intro vlit wl hol hbl hg_ hnew_; clear hg_ hnew_; have X8' := Lib.hid (blk_below X8.out hbl); have O2' := Lib.hid (Kd.R_below O2.out hbl); have O3' := Lib.hid (Kd.R_below O3.out hbl); have BL := Lib.hid (below_step BB.out hbl); have OL := Lib.hid hol; clear hol hbl f0 f1) | ((with_reducible refine gate_builtin (b := .append) (xs := #[.tmp 29, .tmp 30]) rfl ?_); (try (refine gate_guard (by rfl) ?_; dsimp only)); obtain ⟨Al, cl, el⟩ := Kd.R_slice OL.out; subst el; at_builtin; refine Kd.R_append_rows (Kd.int .i64) (w0 := wA) wA.heap.size rfl (.tmp 29) (.tmp 30) 22 2 (.int .i64 0) 8 rfl Try.underlying22 info2 rfl (by decide) (by omega) (.slice A2 K.length c2) K ([1, 2, 3] : List Int) _ _ _ (fun _ => True) (fun _ => False) rfl rfl ?aO ?aR (fun _ _ h => h) (fun _ h => h.elim) ?aF ?aB ?aS ?aL ?_; (case aR => exact (Kd.R_reads' OL.out).2.2); (case aB => exact BL.out); (case aF => exact fun _ _ => trivial); (case aO => exact O2'.out); (case aS => exact BL.out.size); (case aL => simp; omega); intro vR w6 ho hb hg hat; obtain ⟨g2, c2r, er, gb2, gl2, cl2, HG2⟩ := Kd.R_form ho (by simp); cases er; have OK3 := Lib.hid ho; have BK3 := Lib.hid hb; have X8b := Lib.hid (blk_grown X8'.out hg (Kd.R_ne O2'.out X8'.out (by decide))); have OL3 := Lib.hid (Kd.R_over' (v := .slice A2 K.length c2) O3'.out (Kd.R_typed O2'.out) (by decide) hg); clear ho hb hg hat HG2 gl2 cl2; have f0 : w6.cell? ⟨w4.heap.size, 0, none⟩ = some (.slice A2 K.length c2) := (blk_cell X8b.out 0).trans rfl; have ff0 := blk_frozen X8b.out 0))
        have hl3 : (K ++ ([1, 2, 3] : List Int)).length = K.length + 3 := by simp
        have hm3 : (L ++ ([1, 2, 3] : List Int)).length = L.length + 3 := by simp
        refine InnerKeeps.settle (p := fun W => Code.wp _ _ _ _ W) (R := fun W => Hid (W.heap[w4.heap.size]? = some (.cells #[.slice (some ⟨g2, 0, none⟩) (K.length + 3) c2r, .slice A3 L.length c3] 26 (0, 0))) ∧ Hid (Kd.R (Kd.int .i64) 2 W wA.heap.size (fun _ => True) (.slice (some ⟨g2, 0, none⟩) (K.length + 3) c2r) (K ++ [1, 2, 3])) ∧ Hid (Kd.R (Kd.int .i64) 47 W wA.heap.size (fun _ => True) (.slice A3 L.length c3) L) ∧ Hid (Below wA.heap.size wA W)) ?_ ?_
        · refine ⟨Lib.hid (blk_put (cs := #[.slice A2 K.length c2, .slice A3 L.length c3]) X8b.out 0 _ rfl), Lib.hid ?_, Lib.hid (Kd.R_mono (Kd.R_far (p := ⟨w4.heap.size, 0, none⟩) (Kd.R_types OL3.out X8b.out (by decide)) (fun _ hk => hk.2) _) (fun _ _ => trivial)), Lib.hid (below_set BK3.out G8.out)⟩
          have := OK3.out
          rw [hl3] at this
          exact Kd.R_mono (Kd.R_far (p := ⟨w4.heap.size, 0, none⟩) (Kd.R_types this X8b.out (by decide)) (fun _ hk => hk.2) _) (fun _ _ => trivial)
        clear X8b OL3 OK3 BK3 X8' O2' O3' OL BL f0 ff0 X8 O2 O3 BB
        rintro wC ⟨X8, O2, O3, BB⟩
        have f0 : wC.cell? ⟨w4.heap.size, 0, none⟩ = some (.slice (some ⟨g2, 0, none⟩) (K.length + 3) c2r) := (blk_cell X8.out 0).trans rfl
        have f1 : wC.cell? ⟨w4.heap.size, 1, none⟩ = some (.slice A3 L.length c3) := (blk_cell X8.out 1).trans rfl
        clear hl3
        have HM3 := Lib.hid hm3
        clear hm3
        go_upto_region 9 with (first | ((with_reducible refine gate_dst (N := 35) rfl ?_); (try (refine gate_guard (by rfl) ?_; dsimp only)); refine Kd.R_lit (Kd.int .i64) _ 47 ?hg (N := 35) ?hd (xs := ([1, 2, 3] : List Int)) (inner := [.int .i64 1, .int .i64 2, .int .i64 3]) (ok := fun _ => True) (okp := fun _ => True) ?hr ?hp (fun _ hk => hk) trivial (Below.refl _ _) (Nat.le_refl _) (by simp) ?_; (case hd => rfl); (case hg => rfl); (case hr => first | (go_simp; done) | (go_simp; rfl)); (case hp => exact (Reps.one (show Kd.M (Kd.int .i64) _ _ _ (1 : Int) [.int .i64 1] from rfl) (Reps.one (show Kd.M (Kd.int .i64) _ _ _ (2 : Int) [.int .i64 2] from rfl) (Reps.one (show Kd.M (Kd.int .i64) _ _ _ (3 : Int) [.int .i64 3] from rfl) (Reps.none _ _))))); intro vlit wl hol hbl hg_ hnew_; clear hg_ hnew_; have X8' := Lib.hid (blk_below X8.out hbl); have O2' := Lib.hid (Kd.R_below O2.out hbl); have O3' := Lib.hid (Kd.R_below O3.out hbl); have BL := Lib.hid (below_step BB.out hbl); have OL := Lib.hid hol; clear hol hbl f0 f1) | ((with_reducible refine gate_builtin (b := .append) (xs := #[.tmp 34, .tmp 35]) rfl ?_); (try (refine gate_guard (by rfl) ?_; dsimp only)); obtain ⟨Al2, cl2, el⟩ := Kd.R_slice OL.out; subst el; at_builtin; refine Kd.R_append_rows (Kd.int .i64) (w0 := wA) wA.heap.size rfl (.tmp 34) (.tmp 35) 24 47 (.int .i64 0) 8 rfl Try.underlying24 info47 rfl (by decide) (by omega) (.slice A3 L.length c3) L ([1, 2, 3] : List Int) _ _ _ (fun _ => True) (fun _ => False) rfl rfl ?aO ?aR (fun _ _ h => h) (fun _ h => h.elim) ?aF ?aB ?aS ?aL ?_; (case aR => exact (Kd.R_reads' OL.out).2.2); (case aB => exact BL.out); (case aF => exact fun _ _ => trivial); (case aO => exact O3'.out); (case aS => exact BL.out.size); (case aL => simp; omega); intro vR w8 ho hb hg hat; obtain ⟨g3, c3r, er, gb3, gl3, cl3, HG3⟩ := Kd.R_form ho (by simp); cases er; have OK3 := Lib.hid ho; have BK3 := Lib.hid hb; have X8b := Lib.hid (blk_grown X8'.out hg (Kd.R_ne O3'.out X8'.out (by decide))); have OL3 := Lib.hid (Kd.R_over' (v := .slice A3 L.length c3) O2'.out (Kd.R_typed O3'.out) (by decide) hg); clear ho hb hg hat HG3 gl3 cl3; have f1 : w8.cell? ⟨w4.heap.size, 1, none⟩ = some (.slice A3 L.length c3) := (blk_cell X8b.out 1).trans rfl; have ff1 := blk_frozen X8b.out 1))
        refine InnerKeeps.settle (p := fun W => Code.wp _ _ _ _ W) (R := fun W => Hid (W.heap[w4.heap.size]? = some (.cells #[.slice (some ⟨g2, 0, none⟩) (K.length + 3) c2r, .slice (some ⟨g3, 0, none⟩) (L.length + 3) c3r] 26 (0, 0))) ∧ Hid (K.length + 3 ≤ c2r ∧ Kd.C (Kd.int .i64) W (some ⟨g2, 0, none⟩) (K ++ [1, 2, 3]).length (K ++ [1, 2, 3])) ∧ Hid (L.length + 3 ≤ c3r ∧ Kd.C (Kd.int .i64) W (some ⟨g3, 0, none⟩) (L ++ [1, 2, 3]).length (L ++ [1, 2, 3])) ∧ Hid (Below wA.heap.size wA W)) ?_ ?_
        · refine ⟨Lib.hid (blk_put (cs := #[.slice (some ⟨g2, 0, none⟩) (K.length + 3) c2r, .slice A3 L.length c3]) X8b.out 1 _ rfl), Lib.hid ?_, Lib.hid ?_, Lib.hid (below_set BK3.out G8.out)⟩
          · have := Kd.R_mono (Kd.R_far (p := ⟨w4.heap.size, 1, none⟩) (Kd.R_types OL3.out X8b.out (by decide)) (fun _ hk => hk.2) (.slice (some ⟨g3, 0, none⟩) (L.length + 3) c3r)) (fun _ _ => trivial) (ok' := fun _ => True)
            rw [show K.length + 3 = (K ++ ([1, 2, 3] : List Int)).length by simp] at this ⊢
            exact (Kd.R_reads' this).2
          · have := OK3.out
            rw [HM3.out] at this
            have := Kd.R_mono (Kd.R_far (p := ⟨w4.heap.size, 1, none⟩) (Kd.R_types this X8b.out (by decide)) (fun _ hk => hk.2) (.slice (some ⟨g3, 0, none⟩) (L.length + 3) c3r)) (fun _ _ => trivial) (ok' := fun _ => True)
            rw [← HM3.out] at this ⊢
            exact (Kd.R_reads' this).2
        clear X8b OL3 OK3 BK3 X8' O2' O3' OL BL f1 ff1 X8 O2 O3 BB
        rintro wD ⟨X8, R2, R3, BB⟩
        have hq2 : K.length + 3 ≤ c2r := R2.out.1
        have hq3 : L.length + 3 ≤ c3r := R3.out.1
        have hq4 : K.length ≤ c2r := by omega
        have hq5 : L.length ≤ c3r := by omega
        have hq6 : K.length ≤ K.length + 3 := by omega
        have hq7 : L.length ≤ L.length + 3 := by omega
        have X7D := blk_below X7.out BB.out
        have e0 : wD.cell? ⟨w2.heap.size, 0, none⟩ = some (.slice AK K.length cK) := (blk_cell X7D 0).trans rfl
        have e1 : wD.cell? ⟨w2.heap.size, 1, none⟩ = some (.slice AL L.length cL) := (blk_cell X7D 1).trans rfl
        have f0 : wD.cell? ⟨w4.heap.size, 0, none⟩ = some (.slice (some ⟨g2, 0, none⟩) (K.length + 3) c2r) := (blk_cell X8.out 0).trans rfl
        have f1 : wD.cell? ⟨w4.heap.size, 1, none⟩ = some (.slice (some ⟨g3, 0, none⟩) (L.length + 3) c3r) := (blk_cell X8.out 1).trans rfl
        have HD : Hid (Hid (wD.heap[w2.heap.size]? = some (.cells #[.slice AK K.length cK, .slice AL L.length cL] 26 (0, 0))) ∧ Hid (wD.heap[w4.heap.size]? = some (.cells #[.slice (some ⟨g2, 0, none⟩) (K.length + 3) c2r, .slice (some ⟨g3, 0, none⟩) (L.length + 3) c3r] 26 (0, 0))) ∧ Hid (Kd.C (Kd.int .i64) wD AK K.length K) ∧ Hid (Kd.C (Kd.int .i64) wD AL L.length L) ∧ Hid (Kd.C (Kd.int .i64) wD (some ⟨g2, 0, none⟩) (K ++ [1, 2, 3]).length (K ++ [1, 2, 3])) ∧ Hid (Kd.C (Kd.int .i64) wD (some ⟨g3, 0, none⟩) (L ++ [1, 2, 3]).length (L ++ [1, 2, 3])) ∧ Hid (Below wA.heap.size wA wD)) := Lib.hid ⟨Lib.hid X7D, Lib.hid X8.out, Lib.hid (Kd.C_below KA.out BB.out), Lib.hid (Kd.C_below LA.out BB.out), Lib.hid R2.out.2, Lib.hid R3.out.2, BB⟩
        clear X7D X8 R2 R3 BB KA LA X7
        refine start_ (n := 15) (S := fun w' => w'.cell? ⟨w2.heap.size, 0, none⟩ = some (.slice AK K.length cK) ∧ w'.cell? ⟨w2.heap.size, 1, none⟩ = some (.slice AL L.length cL) ∧ w'.cell? ⟨w4.heap.size, 0, none⟩ = some (.slice (some ⟨g2, 0, none⟩) (K.length + 3) c2r) ∧ w'.cell? ⟨w4.heap.size, 1, none⟩ = some (.slice (some ⟨g3, 0, none⟩) (L.length + 3) c3r)) (ds := [14]) #[false, false, false, false, false, false, false, false, false, false, false, false, false, false, false] (by kernel_rfl) rfl rfl ⟨e0, e1, f0, f1⟩ (fun hHeld => ?_)
        refine pure_ (i := 0) (N := some 38) (v := ?_) (a' := ?_) #[true, false, false, false, false, false, false, false, false, false, false, false, false, false, false] rfl rfl (by kernel_rfl) (fun _ _ _ h => h) (Or.inl ⟨by rfl, ?_⟩) ?_ ?_
        rotate_left
        · intro w'
          go_simp
          with_reducible rfl
        rotate_left
        · simp only [Act.put, List.setIfInBounds_toArray, List.set_cons_zero, List.set_cons_succ, i64_w, i32_w]
          rfl
        refine pure_ (i := 2) (N := some 40) (v := ?_) (a' := ?_) #[true, false, true, false, false, false, false, false, false, false, false, false, false, false, false] rfl rfl (by kernel_rfl) (fun _ _ _ h => h) (Or.inl ⟨by rfl, ?_⟩) ?_ ?_
        rotate_left
        · intro w'
          go_simp
          with_reducible rfl
        rotate_left
        · simp only [Act.put, List.setIfInBounds_toArray, List.set_cons_zero, List.set_cons_succ, i64_w, i32_w]
          rfl
        refine pure_ (i := 6) (N := some 44) (v := ?_) (a' := ?_) #[true, false, true, false, false, false, true, false, false, false, false, false, false, false, false] rfl rfl (by kernel_rfl) (fun _ _ _ h => h) (Or.inl ⟨by rfl, ?_⟩) ?_ ?_
        rotate_left
        · intro w'
          go_simp
          with_reducible rfl
        rotate_left
        · simp only [Act.put, List.setIfInBounds_toArray, List.set_cons_zero, List.set_cons_succ, i64_w, i32_w]
          rfl
        refine pure_ (i := 8) (N := some 46) (v := ?_) (a' := ?_) #[true, false, true, false, false, false, true, false, true, false, false, false, false, false, false] rfl rfl (by kernel_rfl) (fun _ _ _ h => h) (Or.inl ⟨by rfl, ?_⟩) ?_ ?_
        rotate_left
        · intro w'
          go_simp
          with_reducible rfl
        rotate_left
        · simp only [Act.put, List.setIfInBounds_toArray, List.set_cons_zero, List.set_cons_succ, i64_w, i32_w]
          rfl
        refine take_ (i := 1) (N := some 39) (v := ?_) (a' := ?_) #[true, true, true, false, false, false, true, false, true, false, false, false, false, false, false] rfl rfl (by kernel_rfl) (fun _ _ _ h => h) (Or.inl ⟨by rfl, ?_⟩) hHeld ?_ ?_
        rotate_left
        · rintro w' ⟨s0, s1, s2, s3⟩
          go_simp
          with_reducible rfl
        rotate_left
        · simp only [Act.put, List.setIfInBounds_toArray, List.set_cons_zero, List.set_cons_succ, i64_w, i32_w]
          rfl
        refine take_ (i := 3) (N := some 41) (v := ?_) (a' := ?_) #[true, true, true, true, false, false, true, false, true, false, false, false, false, false, false] rfl rfl (by kernel_rfl) (fun _ _ _ h => h) (Or.inl ⟨by rfl, ?_⟩) hHeld ?_ ?_
        rotate_left
        · rintro w' ⟨s0, s1, s2, s3⟩
          go_simp
          with_reducible rfl
        rotate_left
        · simp only [Act.put, List.setIfInBounds_toArray, List.set_cons_zero, List.set_cons_succ, i64_w, i32_w]
          rfl
        refine pure_ (i := 4) (N := some 42) (v := ?_) (a' := ?_) #[true, true, true, true, true, false, true, false, true, false, false, false, false, false, false] rfl rfl (by kernel_rfl) (fun _ _ _ h => h) (Or.inl ⟨by rfl, ?_⟩) ?_ ?_
        rotate_left
        · intro w'
          go_simp
          with_reducible rfl
        rotate_left
        · simp only [Act.put, List.setIfInBounds_toArray, List.set_cons_zero, List.set_cons_succ, i64_w, i32_w]
          rfl
        refine pure_ (i := 5) (N := some 43) (v := ?_) (a' := ?_) #[true, true, true, true, true, true, true, false, true, false, false, false, false, false, false] rfl rfl (by kernel_rfl) (fun _ _ _ h => h) (Or.inl ⟨by rfl, ?_⟩) ?_ ?_
        rotate_left
        · intro w'
          go_simp
          with_reducible rfl
        rotate_left
        · simp only [Act.put, List.setIfInBounds_toArray, List.set_cons_zero, List.set_cons_succ, i64_w, i32_w]
          rfl
        refine take_ (i := 7) (N := some 45) (v := ?_) (a' := ?_) #[true, true, true, true, true, true, true, true, true, false, false, false, false, false, false] rfl rfl (by kernel_rfl) (fun _ _ _ h => h) (Or.inl ⟨by rfl, ?_⟩) hHeld ?_ ?_
        rotate_left
        · rintro w' ⟨s0, s1, s2, s3⟩
          go_simp
          with_reducible rfl
        rotate_left
        · simp only [Act.put, List.setIfInBounds_toArray, List.set_cons_zero, List.set_cons_succ, i64_w, i32_w]
          rfl
        refine take_ (i := 9) (N := some 47) (v := ?_) (a' := ?_) #[true, true, true, true, true, true, true, true, true, true, false, false, false, false, false] rfl rfl (by kernel_rfl) (fun _ _ _ h => h) (Or.inl ⟨by rfl, ?_⟩) hHeld ?_ ?_
        rotate_left
        · rintro w' ⟨s0, s1, s2, s3⟩
          go_simp
          with_reducible rfl
        rotate_left
        · simp only [Act.put, List.setIfInBounds_toArray, List.set_cons_zero, List.set_cons_succ, i64_w, i32_w]
          rfl
        refine pure_ (i := 10) (N := some 48) (v := ?_) (a' := ?_) #[true, true, true, true, true, true, true, true, true, true, true, false, false, false, false] rfl rfl (by kernel_rfl) (fun _ _ _ h => h) (Or.inl ⟨by rfl, ?_⟩) ?_ ?_
        rotate_left
        · intro w'
          go_simp
          with_reducible rfl
        rotate_left
        · simp only [Act.put, List.setIfInBounds_toArray, List.set_cons_zero, List.set_cons_succ, i64_w, i32_w]
          rfl
        refine pure_ (i := 11) (N := some 49) (v := ?_) (a' := ?_) #[true, true, true, true, true, true, true, true, true, true, true, true, false, false, false] rfl rfl (by kernel_rfl) (fun _ _ _ h => h) (Or.inl ⟨by rfl, ?_⟩) ?_ ?_
        rotate_left
        · intro w'
          go_simp
          with_reducible rfl
        rotate_left
        · simp only [Act.put, List.setIfInBounds_toArray, List.set_cons_zero, List.set_cons_succ, i64_w, i32_w]
          rfl
        refine pure_ (i := 12) (N := some 50) (v := ?_) (a' := ?_) #[true, true, true, true, true, true, true, true, true, true, true, true, true, false, false] rfl rfl (by kernel_rfl) (fun _ _ _ h => h) (Or.inl ⟨by rfl, ?_⟩) ?_ ?_
        rotate_left
        · intro w'
          go_simp
          with_reducible rfl
        rotate_left
        · simp only [Act.put, List.setIfInBounds_toArray, List.set_cons_zero, List.set_cons_succ, i64_w, i32_w]
          rfl
        refine one_ (i := 13) (N := some 9) #[true, true, true, true, true, true, true, true, true, true, true, true, true, true, false] rfl rfl (by kernel_rfl) (by decide) (fun Kq hK => ?_)
        refine value_ (w1 := ?_) (v := ?_) (by rfl) rfl ?_ ?_
        rotate_left 2
        · go_simp
          constructor
          · rfl
          · rfl
        refine hK.out _ _ ⟨((World.cell?_alloc_lt _ _ _ (World.block_lt_of_cell? _ _ (hHeld.1))).trans (hHeld.1)), ((World.cell?_alloc_lt _ _ _ (World.block_lt_of_cell? _ _ (hHeld.2.1))).trans (hHeld.2.1)), ((World.cell?_alloc_lt _ _ _ (World.block_lt_of_cell? _ _ (hHeld.2.2.1))).trans (hHeld.2.2.1)), ((World.cell?_alloc_lt _ _ _ (World.block_lt_of_cell? _ _ (hHeld.2.2.2))).trans (hHeld.2.2.2))⟩ (fun hHeld => ?_)
        clear hK Kq
        refine norm_ (a' := ?_) ?_ ?_
        rotate_left
        · show Act.put _ (some 9) _ = _
          simp only [Act.put, List.setIfInBounds_toArray, List.set_cons_zero, List.set_cons_succ, i64_w, i32_w]
          rfl
        refine last_ (i := 14) (N := none) #[true, true, true, true, true, true, true, true, true, true, true, true, true, true, true] rfl rfl (by kernel_rfl) (by decide) (fun Kq hK => ?_)
        refine skip_ (w1 := ?_) (by rfl) rfl ?_ ?_
        rotate_left
        · go_simp
          rfl
        refine hK.out _ _ ?_
        clear hK Kq
        refine done_ (by kernel_rfl) ?_
        go_upto_region 10 with (fail)
        refine InnerKeeps.settle (p := fun W => Code.wp _ _ _ _ W) (R := fun W => Hid (W.heap[wD.heap.size]? = some (.cells #[.slice (some ⟨g2, 0, none⟩) K.length c2r, .slice (some ⟨g3, 0, none⟩) L.length c3r] 26 (0, 0))) ∧ Hid (W.heap[w2.heap.size]? = some (.cells #[.slice AK K.length cK, .slice AL L.length cL] 26 (0, 0))) ∧ Hid (W.heap[w4.heap.size]? = some (.cells #[.slice (some ⟨g2, 0, none⟩) (K.length + 3) c2r, .slice (some ⟨g3, 0, none⟩) (L.length + 3) c3r] 26 (0, 0))) ∧ Hid (Kd.C (Kd.int .i64) W AK K.length K) ∧ Hid (Kd.C (Kd.int .i64) W AL L.length L) ∧ Hid (Kd.C (Kd.int .i64) W (some ⟨g2, 0, none⟩) (K ++ [1, 2, 3]).length (K ++ [1, 2, 3])) ∧ Hid (Kd.C (Kd.int .i64) W (some ⟨g3, 0, none⟩) (L ++ [1, 2, 3]).length (L ++ [1, 2, 3])) ∧ Hid (Below wA.heap.size wA W)) ?_ ?_
        · obtain ⟨X7, X8, KA, LA, R2, R3, BB⟩ := HD.out
          exact ⟨Lib.hid (heap_alloc_new wD _), Lib.hid (blk_alloc X7.out _), Lib.hid (blk_alloc X8.out _), Lib.hid (Kd.C_drew (Kd.C_alloc KA.out _)), Lib.hid (Kd.C_drew (Kd.C_alloc LA.out _)), Lib.hid (Kd.C_drew (Kd.C_alloc R2.out _)), Lib.hid (Kd.C_drew (Kd.C_alloc R3.out _)), Lib.hid (below_drew1 (below_alloc BB.out _))⟩
        clear HD e0 e1 f0 f1
        rintro wE ⟨X9, X7, X8, KA, LA, R2, R3, BB⟩
        have PK := Lib.hid (InnerKeeps.C_pre (C_len R2.out) R2.out)
        have PL := Lib.hid (InnerKeeps.C_pre (C_len R3.out) R3.out)
        have z0 : ¬ ((L.length : Int) = 0) := by have := HKL.out; omega
        have z1 : ¬ (L.length = 0) := by have := HKL.out; omega
        have n0 : wE.cell? ⟨wD.heap.size, 0, none⟩ = some (.slice (some ⟨g2, 0, none⟩) K.length c2r) := (blk_cell X9.out 0).trans rfl
        have n1 : wE.cell? ⟨wD.heap.size, 1, none⟩ = some (.slice (some ⟨g3, 0, none⟩) L.length c3r) := (blk_cell X9.out 1).trans rfl
        go_upto_region 12 with (go_at_call 53; refine (inner_Inner_Halves.calls k _ _ K _ _ L h1 h2 h3 h4 h5 _ ?_ hq4 ?_ hq5 HH.out).mono ?_; (exact PK.out); (exact PL.out); rintro e wF ⟨va, vb, vc, vd, rfl, ho, ho2, ho3, ho4, hb⟩; obtain ⟨Aa, ca, ea⟩ := Kd.R_slice ho; subst ea; obtain ⟨Ab, cb, eb⟩ := Kd.R_slice ho2; subst eb; obtain ⟨Ac, cc, ec⟩ := Kd.R_slice ho3; subst ec; obtain ⟨Ad, cd, ed⟩ := Kd.R_slice ho4; subst ed; have Ga := Lib.hid (InnerKeeps.Good.ofR (B := wE.heap.size) (Nat.le_refl _) ho); have Gb := Lib.hid (InnerKeeps.Good.ofR (B := wE.heap.size) (Nat.le_refl _) ho2); have Gc := Lib.hid (InnerKeeps.Good.ofR (B := wE.heap.size) (Nat.le_refl _) ho3); have Gd := Lib.hid (InnerKeeps.Good.ofR (B := wE.heap.size) (Nat.le_refl _) ho4); have BF := Lib.hid hb; clear ho ho2 ho3 ho4 hb)
        refine InnerKeeps.settle (p := fun W => Code.wp _ _ _ _ W) (R := fun W => Hid (W.heap[wD.heap.size]? = some (.cells #[.slice (some ⟨g2, 0, none⟩) K.length c2r, .slice (some ⟨g3, 0, none⟩) L.length c3r] 26 (0, 0))) ∧ Hid (W.heap[wF.heap.size]? = some (.cells #[.slice Aa h1.length ca, .slice Ab h2.length cb] 26 (0, 0))) ∧ Hid (W.heap[wF.heap.size + 1]? = some (.cells #[.slice Ac h3.length cc, .slice Ad h4.length cd] 26 (0, 0))) ∧ Hid (InnerKeeps.Good 2 wE.heap.size W (.slice Aa h1.length ca)) ∧ Hid (InnerKeeps.Good 47 wE.heap.size W (.slice Ab h2.length cb)) ∧ Hid (InnerKeeps.Good 2 wE.heap.size W (.slice Ac h3.length cc)) ∧ Hid (InnerKeeps.Good 47 wE.heap.size W (.slice Ad h4.length cd)) ∧ Hid (Below wE.heap.size wE W)) ?_ ?_
        · have hq : ∀ X Y, Below wF.heap.size wF ((wF.alloc X).alloc Y) := fun X Y => below_alloc ((Below.refl _ _).alloc (Nat.le_refl _) _) _
          refine ⟨Lib.hid (blk_below (blk_below X9.out BF.out) (hq _ _)), Lib.hid (blk_alloc (heap_alloc_new wF _) _), Lib.hid ?_, Lib.hid (Ga.out.below (hq _ _)), Lib.hid (Gb.out.below (hq _ _)), Lib.hid (Gc.out.below (hq _ _)), Lib.hid (Gd.out.below (hq _ _)), Lib.hid (below_step BF.out (hq _ _))⟩
          have h := heap_alloc_new (wF.alloc (.cells #[.slice Aa h1.length ca, .slice Ab h2.length cb] 26)) (.cells #[.slice Ac h3.length cc, .slice Ad h4.length cd] 26)
          rwa [show (wF.alloc (.cells #[.slice Aa h1.length ca, .slice Ab h2.length cb] 26)).heap.size = wF.heap.size + 1 from Array.size_push _] at h
        clear Ga Gb Gc Gd BF n0 n1
        rintro wG ⟨Y9, Y11, Y12, Ga, Gb, Gc, Gd, BG⟩
        have n0 : wG.cell? ⟨wD.heap.size, 0, none⟩ = some (.slice (some ⟨g2, 0, none⟩) K.length c2r) := (blk_cell Y9.out 0).trans rfl
        have n1 : wG.cell? ⟨wD.heap.size, 1, none⟩ = some (.slice (some ⟨g3, 0, none⟩) L.length c3r) := (blk_cell Y9.out 1).trans rfl
        have p0 : wG.cell? ⟨wF.heap.size, 0, none⟩ = some (.slice Aa h1.length ca) := (blk_cell Y11.out 0).trans rfl
        have p1 : wG.cell? ⟨wF.heap.size, 1, none⟩ = some (.slice Ab h2.length cb) := (blk_cell Y11.out 1).trans rfl
        have q0 : wG.cell? ⟨wF.heap.size + 1, 0, none⟩ = some (.slice Ac h3.length cc) := (blk_cell Y12.out 0).trans rfl
        have q1 : wG.cell? ⟨wF.heap.size + 1, 1, none⟩ = some (.slice Ad h4.length cd) := (blk_cell Y12.out 1).trans rfl
        have Q0 : Hid (Below wE.heap.size wE (World.drew wG)) := Lib.hid (below_drew1 BG.out)
        have hdr : Below wG.heap.size wG (World.drew wG) := below_drew1 (Below.refl _ _)
        have Ga' := Lib.hid (Ga.out.below hdr)
        have Gb' := Lib.hid (Gb.out.below hdr)
        have Gc' := Lib.hid (Gc.out.below hdr)
        have Gd' := Lib.hid (Gd.out.below hdr)
        clear Ga Gb Gc Gd BG Y9 Y11 Y12 hdr
        have Ga := Ga'
        have Gb := Gb'
        have Gc := Gc'
        have Gd := Gd'
        clear Ga' Gb' Gc' Gd'
        refine start_ (n := 23) (S := fun w' => w'.cell? ⟨wD.heap.size, 0, none⟩ = some (.slice (some ⟨g2, 0, none⟩) K.length c2r) ∧ w'.cell? ⟨wD.heap.size, 1, none⟩ = some (.slice (some ⟨g3, 0, none⟩) L.length c3r) ∧ w'.cell? ⟨wF.heap.size, 0, none⟩ = some (.slice Aa h1.length ca) ∧ w'.cell? ⟨wF.heap.size, 1, none⟩ = some (.slice Ab h2.length cb) ∧ w'.cell? ⟨(wF.heap.size + 1), 0, none⟩ = some (.slice Ac h3.length cc) ∧ w'.cell? ⟨(wF.heap.size + 1), 1, none⟩ = some (.slice Ad h4.length cd)) (ds := []) #[false, false, false, false, false, false, false, false, false, false, false, false, false, false, false, false, false, false, false, false, false, false, false] (by kernel_rfl) rfl rfl ⟨n0, n1, p0, p1, q0, q1⟩ (fun hHeld => ?_)
        refine pure_ (i := 3) (N := some 66) (v := ?_) (a' := ?_) #[false, false, false, true, false, false, false, false, false, false, false, false, false, false, false, false, false, false, false, false, false, false, false] rfl rfl (by kernel_rfl) (fun _ _ _ h => h) (Or.inl ⟨by rfl, ?_⟩) ?_ ?_
        rotate_left
        · intro w'
          go_simp
          with_reducible rfl
        rotate_left
        · simp only [Act.put, List.setIfInBounds_toArray, List.set_cons_zero, List.set_cons_succ, i64_w, i32_w]
          rfl
        refine pure_ (i := 6) (N := some 69) (v := ?_) (a' := ?_) #[false, false, false, true, false, false, true, false, false, false, false, false, false, false, false, false, false, false, false, false, false, false, false] rfl rfl (by kernel_rfl) (fun _ _ _ h => h) (Or.inl ⟨by rfl, ?_⟩) ?_ ?_
        rotate_left
        · intro w'
          go_simp
          with_reducible rfl
        rotate_left
        · simp only [Act.put, List.setIfInBounds_toArray, List.set_cons_zero, List.set_cons_succ, i64_w, i32_w]
          rfl
        refine pure_ (i := 10) (N := some 73) (v := ?_) (a' := ?_) #[false, false, false, true, false, false, true, false, false, false, true, false, false, false, false, false, false, false, false, false, false, false, false] rfl rfl (by kernel_rfl) (fun _ _ _ h => h) (Or.inl ⟨by rfl, ?_⟩) ?_ ?_
        rotate_left
        · intro w'
          go_simp
          with_reducible rfl
        rotate_left
        · simp only [Act.put, List.setIfInBounds_toArray, List.set_cons_zero, List.set_cons_succ, i64_w, i32_w]
          rfl
        refine pure_ (i := 14) (N := some 77) (v := ?_) (a' := ?_) #[false, false, false, true, false, false, true, false, false, false, true, false, false, false, true, false, false, false, false, false, false, false, false] rfl rfl (by kernel_rfl) (fun _ _ _ h => h) (Or.inl ⟨by rfl, ?_⟩) ?_ ?_
        rotate_left
        · intro w'
          go_simp
          with_reducible rfl
        rotate_left
        · simp only [Act.put, List.setIfInBounds_toArray, List.set_cons_zero, List.set_cons_succ, i64_w, i32_w]
          rfl
        refine pure_ (i := 17) (N := some 80) (v := ?_) (a' := ?_) #[false, false, false, true, false, false, true, false, false, false, true, false, false, false, true, false, false, true, false, false, false, false, false] rfl rfl (by kernel_rfl) (fun _ _ _ h => h) (Or.inl ⟨by rfl, ?_⟩) ?_ ?_
        rotate_left
        · intro w'
          go_simp
          with_reducible rfl
        rotate_left
        · simp only [Act.put, List.setIfInBounds_toArray, List.set_cons_zero, List.set_cons_succ, i64_w, i32_w]
          rfl
        refine pure_ (i := 18) (N := some 81) (v := ?_) (a' := ?_) #[false, false, false, true, false, false, true, false, false, false, true, false, false, false, true, false, false, true, true, false, false, false, false] rfl rfl (by kernel_rfl) (fun _ _ _ h => h) (Or.inl ⟨by rfl, ?_⟩) ?_ ?_
        rotate_left
        · intro w'
          go_simp
          with_reducible rfl
        rotate_left
        · simp only [Act.put, List.setIfInBounds_toArray, List.set_cons_zero, List.set_cons_succ, i64_w, i32_w]
          rfl
        refine pure_ (i := 22) (N := some 85) (v := ?_) (a' := ?_) #[false, false, false, true, false, false, true, false, false, false, true, false, false, false, true, false, false, true, true, false, false, false, true] rfl rfl (by kernel_rfl) (fun _ _ _ h => h) (Or.inl ⟨by rfl, ?_⟩) ?_ ?_
        rotate_left
        · intro w'
          go_simp
          with_reducible rfl
        rotate_left
        · simp only [Act.put, List.setIfInBounds_toArray, List.set_cons_zero, List.set_cons_succ, i64_w, i32_w]
          rfl
        refine take_ (i := 0) (N := some 63) (v := ?_) (a' := ?_) #[true, false, false, true, false, false, true, false, false, false, true, false, false, false, true, false, false, true, true, false, false, false, true] rfl rfl (by kernel_rfl) (fun _ _ _ h => h) (Or.inl ⟨by rfl, ?_⟩) hHeld ?_ ?_
        rotate_left
        · rintro w' ⟨s0, s1, s2, s3, s4, s5⟩
          go_simp
          with_reducible rfl
        rotate_left
        · simp only [Act.put, List.setIfInBounds_toArray, List.set_cons_zero, List.set_cons_succ, i64_w, i32_w]
          rfl
        refine take_ (i := 1) (N := some 64) (v := ?_) (a' := ?_) #[true, true, false, true, false, false, true, false, false, false, true, false, false, false, true, false, false, true, true, false, false, false, true] rfl rfl (by kernel_rfl) (fun _ _ _ h => h) (Or.inl ⟨by rfl, ?_⟩) hHeld ?_ ?_
        rotate_left
        · rintro w' ⟨s0, s1, s2, s3, s4, s5⟩
          go_simp
          with_reducible rfl
        rotate_left
        · simp only [Act.put, List.setIfInBounds_toArray, List.set_cons_zero, List.set_cons_succ, i64_w, i32_w]
          rfl
        refine take_ (i := 2) (N := some 65) (v := ?_) (a' := ?_) #[true, true, true, true, false, false, true, false, false, false, true, false, false, false, true, false, false, true, true, false, false, false, true] rfl rfl (by kernel_rfl) (fun _ _ _ h => h) (Or.inl ⟨by rfl, ?_⟩) hHeld ?_ ?_
        rotate_left
        · rintro w' ⟨s0, s1, s2, s3, s4, s5⟩
          go_simp
          with_reducible rfl
        rotate_left
        · simp only [Act.put, List.setIfInBounds_toArray, List.set_cons_zero, List.set_cons_succ, i64_w, i32_w]
          rfl
        refine take_ (i := 5) (N := some 68) (v := ?_) (a' := ?_) #[true, true, true, true, false, true, true, false, false, false, true, false, false, false, true, false, false, true, true, false, false, false, true] rfl rfl (by kernel_rfl) (fun _ _ _ h => h) (Or.inl ⟨by rfl, ?_⟩) hHeld ?_ ?_
        rotate_left
        · rintro w' ⟨s0, s1, s2, s3, s4, s5⟩
          go_simp
          with_reducible rfl
        rotate_left
        · simp only [Act.put, List.setIfInBounds_toArray, List.set_cons_zero, List.set_cons_succ, i64_w, i32_w]
          rfl
        refine take_ (i := 7) (N := some 70) (v := ?_) (a' := ?_) #[true, true, true, true, false, true, true, true, false, false, true, false, false, false, true, false, false, true, true, false, false, false, true] rfl rfl (by kernel_rfl) (fun _ _ _ h => h) (Or.inl ⟨by rfl, ?_⟩) hHeld ?_ ?_
        rotate_left
        · rintro w' ⟨s0, s1, s2, s3, s4, s5⟩
          go_simp
          with_reducible rfl
        rotate_left
        · simp only [Act.put, List.setIfInBounds_toArray, List.set_cons_zero, List.set_cons_succ, i64_w, i32_w]
          rfl
        refine take_ (i := 9) (N := some 72) (v := ?_) (a' := ?_) #[true, true, true, true, false, true, true, true, false, true, true, false, false, false, true, false, false, true, true, false, false, false, true] rfl rfl (by kernel_rfl) (fun _ _ _ h => h) (Or.inl ⟨by rfl, ?_⟩) hHeld ?_ ?_
        rotate_left
        · rintro w' ⟨s0, s1, s2, s3, s4, s5⟩
          go_simp
          with_reducible rfl
        rotate_left
        · simp only [Act.put, List.setIfInBounds_toArray, List.set_cons_zero, List.set_cons_succ, i64_w, i32_w]
          rfl
        refine take_ (i := 11) (N := some 74) (v := ?_) (a' := ?_) #[true, true, true, true, false, true, true, true, false, true, true, true, false, false, true, false, false, true, true, false, false, false, true] rfl rfl (by kernel_rfl) (fun _ _ _ h => h) (Or.inl ⟨by rfl, ?_⟩) hHeld ?_ ?_
        rotate_left
        · rintro w' ⟨s0, s1, s2, s3, s4, s5⟩
          go_simp
          with_reducible rfl
        rotate_left
        · simp only [Act.put, List.setIfInBounds_toArray, List.set_cons_zero, List.set_cons_succ, i64_w, i32_w]
          rfl
        refine take_ (i := 13) (N := some 76) (v := ?_) (a' := ?_) #[true, true, true, true, false, true, true, true, false, true, true, true, false, true, true, false, false, true, true, false, false, false, true] rfl rfl (by kernel_rfl) (fun _ _ _ h => h) (Or.inl ⟨by rfl, ?_⟩) hHeld ?_ ?_
        rotate_left
        · rintro w' ⟨s0, s1, s2, s3, s4, s5⟩
          go_simp
          with_reducible rfl
        rotate_left
        · simp only [Act.put, List.setIfInBounds_toArray, List.set_cons_zero, List.set_cons_succ, i64_w, i32_w]
          rfl
        refine take_ (i := 16) (N := some 79) (v := ?_) (a' := ?_) #[true, true, true, true, false, true, true, true, false, true, true, true, false, true, true, false, true, true, true, false, false, false, true] rfl rfl (by kernel_rfl) (fun _ _ _ h => h) (Or.inl ⟨by rfl, ?_⟩) hHeld ?_ ?_
        rotate_left
        · rintro w' ⟨s0, s1, s2, s3, s4, s5⟩
          go_simp
          with_reducible rfl
        rotate_left
        · simp only [Act.put, List.setIfInBounds_toArray, List.set_cons_zero, List.set_cons_succ, i64_w, i32_w]
          rfl
        refine one_ (i := 4) (N := some 67) #[true, true, true, true, true, true, true, true, false, true, true, true, false, true, true, false, true, true, true, false, false, false, true] rfl rfl (by kernel_rfl) (by decide) (fun Kq hK => ?_)
        refine goes_ Try.func52 (by kernel_rfl) rfl #[.agg #[.slice (some ⟨g2, 0, none⟩) K.length c2r, .slice (some ⟨g3, 0, none⟩) L.length c3r], .int .i64 (Int.tmod (wrap64 a1) (L.length : Int)), .int .i64 9] (by rfl) rfl rfl (by simp only [List.map_toArray, List.map_cons, List.map_nil]; rfl) ?_
        with_reducible refine (inner_Inner_With.calls _ _ K _ _ L (Int.tmod (wrap64 a1) (L.length : Int)) 9 i1 i2 _ (Kd.C_below PK.out Q0.out) hq4 (Kd.C_below PL.out Q0.out) hq5 HI.out).mono ?_
        rintro e x1 ⟨ve, vf, rfl, ho, ho2, hb⟩
        refine ⟨_, rfl, ?_⟩
        obtain ⟨Ave, cve, eve⟩ := Kd.R_slice ho
        subst eve
        obtain ⟨Avf, cvf, evf⟩ := Kd.R_slice ho2
        subst evf
        have Gve := Lib.hid (InnerKeeps.Good.ofR (B := wE.heap.size) Q0.out.size ho)
        have Gvf := Lib.hid (InnerKeeps.Good.ofR (B := wE.heap.size) Q0.out.size ho2)
        have Ga' := Lib.hid (Ga.out.below hb)
        clear Ga
        have Ga := Ga'
        clear Ga'
        have Gb' := Lib.hid (Gb.out.below hb)
        clear Gb
        have Gb := Gb'
        clear Gb'
        have Gc' := Lib.hid (Gc.out.below hb)
        clear Gc
        have Gc := Gc'
        clear Gc'
        have Gd' := Lib.hid (Gd.out.below hb)
        clear Gd
        have Gd := Gd'
        clear Gd'
        have Q1 := Lib.hid (below_step Q0.out hb)
        have hb_ := Lib.hid hb
        clear ho ho2 hb Q0
        refine hK.out _ _ ⟨((hb_.out.cell (World.block_lt_of_cell? _ _ (hHeld.1))).trans (hHeld.1)), ((hb_.out.cell (World.block_lt_of_cell? _ _ (hHeld.2.1))).trans (hHeld.2.1)), ((hb_.out.cell (World.block_lt_of_cell? _ _ (hHeld.2.2.1))).trans (hHeld.2.2.1)), ((hb_.out.cell (World.block_lt_of_cell? _ _ (hHeld.2.2.2.1))).trans (hHeld.2.2.2.1)), ((hb_.out.cell (World.block_lt_of_cell? _ _ (hHeld.2.2.2.2.1))).trans (hHeld.2.2.2.2.1)), ((hb_.out.cell (World.block_lt_of_cell? _ _ (hHeld.2.2.2.2.2))).trans (hHeld.2.2.2.2.2))⟩ (fun hHeld => ?_)
        clear hK Kq
        refine norm_ (a' := ?_) ?_ ?_
        rotate_left
        · show Act.put _ (some 67) _ = _
          simp only [Act.put, List.setIfInBounds_toArray, List.set_cons_zero, List.set_cons_succ, i64_w, i32_w]
          rfl
        refine one_ (i := 8) (N := some 71) #[true, true, true, true, true, true, true, true, true, true, true, true, false, true, true, false, true, true, true, false, false, false, true] rfl rfl (by kernel_rfl) (by decide) (fun Kq hK => ?_)
        refine goes_ Try.func77 (by kernel_rfl) rfl #[.agg #[.slice (some ⟨g2, 0, none⟩) K.length c2r, .slice (some ⟨g3, 0, none⟩) L.length c3r], .int .i64 (Int.tmod (wrap64 a1) (L.length : Int)), .agg #[.slice (some ⟨g2, 0, none⟩) K.length c2r, .slice (some ⟨g3, 0, none⟩) L.length c3r]] (by rfl) rfl rfl (by simp only [List.map_toArray, List.map_cons, List.map_nil]; rfl) ?_
        with_reducible refine (inner_Inner_Absorb.calls k _ _ K _ _ L (Int.tmod (wrap64 a1) (L.length : Int)) _ _ K _ _ L b1 b2 _ (Kd.C_below PK.out Q1.out) hq4 (Kd.C_below PL.out Q1.out) hq5 (Kd.C_below PK.out Q1.out) hq4 (Kd.C_below PL.out Q1.out) hq5 HBb.out).mono ?_
        rintro e x2 ⟨vg, vh, rfl, ho, ho2, hb⟩
        refine ⟨_, rfl, ?_⟩
        obtain ⟨Avg, cvg, evg⟩ := Kd.R_slice ho
        subst evg
        obtain ⟨Avh, cvh, evh⟩ := Kd.R_slice ho2
        subst evh
        have Gvg := Lib.hid (InnerKeeps.Good.ofR (B := wE.heap.size) Q1.out.size ho)
        have Gvh := Lib.hid (InnerKeeps.Good.ofR (B := wE.heap.size) Q1.out.size ho2)
        have Ga' := Lib.hid (Ga.out.below hb)
        clear Ga
        have Ga := Ga'
        clear Ga'
        have Gb' := Lib.hid (Gb.out.below hb)
        clear Gb
        have Gb := Gb'
        clear Gb'
        have Gc' := Lib.hid (Gc.out.below hb)
        clear Gc
        have Gc := Gc'
        clear Gc'
        have Gd' := Lib.hid (Gd.out.below hb)
        clear Gd
        have Gd := Gd'
        clear Gd'
        have Gve' := Lib.hid (Gve.out.below hb)
        clear Gve
        have Gve := Gve'
        clear Gve'
        have Gvf' := Lib.hid (Gvf.out.below hb)
        clear Gvf
        have Gvf := Gvf'
        clear Gvf'
        have Q2 := Lib.hid (below_step Q1.out hb)
        have hb_ := Lib.hid hb
        clear ho ho2 hb Q1
        refine hK.out _ _ ⟨((hb_.out.cell (World.block_lt_of_cell? _ _ (hHeld.1))).trans (hHeld.1)), ((hb_.out.cell (World.block_lt_of_cell? _ _ (hHeld.2.1))).trans (hHeld.2.1)), ((hb_.out.cell (World.block_lt_of_cell? _ _ (hHeld.2.2.1))).trans (hHeld.2.2.1)), ((hb_.out.cell (World.block_lt_of_cell? _ _ (hHeld.2.2.2.1))).trans (hHeld.2.2.2.1)), ((hb_.out.cell (World.block_lt_of_cell? _ _ (hHeld.2.2.2.2.1))).trans (hHeld.2.2.2.2.1)), ((hb_.out.cell (World.block_lt_of_cell? _ _ (hHeld.2.2.2.2.2))).trans (hHeld.2.2.2.2.2))⟩ (fun hHeld => ?_)
        clear hK Kq
        refine norm_ (a' := ?_) ?_ ?_
        rotate_left
        · show Act.put _ (some 71) _ = _
          simp only [Act.put, List.setIfInBounds_toArray, List.set_cons_zero, List.set_cons_succ, i64_w, i32_w]
          rfl
        refine one_ (i := 12) (N := some 75) #[true, true, true, true, true, true, true, true, true, true, true, true, true, true, true, false, true, true, true, false, false, false, true] rfl rfl (by kernel_rfl) (by decide) (fun Kq hK => ?_)
        refine goes_ Try.func57 (by kernel_rfl) rfl #[.agg #[.slice (some ⟨g2, 0, none⟩) K.length c2r, .slice (some ⟨g3, 0, none⟩) L.length c3r], .int .i64 a2, .agg #[.slice (some ⟨g2, 0, none⟩) K.length c2r, .slice (some ⟨g3, 0, none⟩) L.length c3r]] (by rfl) rfl rfl (by simp only [List.map_toArray, List.map_cons, List.map_nil]; rfl) ?_
        with_reducible refine (inner_Inner_Join.calls _ _ K _ _ L a2 _ _ K _ _ L j1 j2 _ (Kd.C_below PK.out Q2.out) hq4 (Kd.C_below PL.out Q2.out) hq5 (Kd.C_below PK.out Q2.out) hq4 (Kd.C_below PL.out Q2.out) hq5 HJ.out).mono ?_
        rintro e x3 ⟨vi, vj, rfl, ho, ho2, hb⟩
        refine ⟨_, rfl, ?_⟩
        obtain ⟨Avi, cvi, evi⟩ := Kd.R_slice ho
        subst evi
        obtain ⟨Avj, cvj, evj⟩ := Kd.R_slice ho2
        subst evj
        have Gvi := Lib.hid (InnerKeeps.Good.ofR (B := wE.heap.size) Q2.out.size ho)
        have Gvj := Lib.hid (InnerKeeps.Good.ofR (B := wE.heap.size) Q2.out.size ho2)
        have Ga' := Lib.hid (Ga.out.below hb)
        clear Ga
        have Ga := Ga'
        clear Ga'
        have Gb' := Lib.hid (Gb.out.below hb)
        clear Gb
        have Gb := Gb'
        clear Gb'
        have Gc' := Lib.hid (Gc.out.below hb)
        clear Gc
        have Gc := Gc'
        clear Gc'
        have Gd' := Lib.hid (Gd.out.below hb)
        clear Gd
        have Gd := Gd'
        clear Gd'
        have Gve' := Lib.hid (Gve.out.below hb)
        clear Gve
        have Gve := Gve'
        clear Gve'
        have Gvf' := Lib.hid (Gvf.out.below hb)
        clear Gvf
        have Gvf := Gvf'
        clear Gvf'
        have Gvg' := Lib.hid (Gvg.out.below hb)
        clear Gvg
        have Gvg := Gvg'
        clear Gvg'
        have Gvh' := Lib.hid (Gvh.out.below hb)
        clear Gvh
        have Gvh := Gvh'
        clear Gvh'
        have Q3 := Lib.hid (below_step Q2.out hb)
        have hb_ := Lib.hid hb
        clear ho ho2 hb Q2
        refine hK.out _ _ ⟨((hb_.out.cell (World.block_lt_of_cell? _ _ (hHeld.1))).trans (hHeld.1)), ((hb_.out.cell (World.block_lt_of_cell? _ _ (hHeld.2.1))).trans (hHeld.2.1)), ((hb_.out.cell (World.block_lt_of_cell? _ _ (hHeld.2.2.1))).trans (hHeld.2.2.1)), ((hb_.out.cell (World.block_lt_of_cell? _ _ (hHeld.2.2.2.1))).trans (hHeld.2.2.2.1)), ((hb_.out.cell (World.block_lt_of_cell? _ _ (hHeld.2.2.2.2.1))).trans (hHeld.2.2.2.2.1)), ((hb_.out.cell (World.block_lt_of_cell? _ _ (hHeld.2.2.2.2.2))).trans (hHeld.2.2.2.2.2))⟩ (fun hHeld => ?_)
        clear hK Kq
        refine norm_ (a' := ?_) ?_ ?_
        rotate_left
        · show Act.put _ (some 75) _ = _
          simp only [Act.put, List.setIfInBounds_toArray, List.set_cons_zero, List.set_cons_succ, i64_w, i32_w]
          rfl
        refine one_ (i := 15) (N := some 78) #[true, true, true, true, true, true, true, true, true, true, true, true, true, true, true, true, true, true, true, false, false, false, true] rfl rfl (by kernel_rfl) (by decide) (fun Kq hK => ?_)
        refine goes_ Try.func82 (by kernel_rfl) rfl #[.agg #[.slice (some ⟨g2, 0, none⟩) K.length c2r, .slice (some ⟨g3, 0, none⟩) L.length c3r], .int .i64 (Int.tmod (wrap64 a1) (L.length : Int)), .int .i64 9] (by rfl) rfl rfl (by simp only [List.map_toArray, List.map_cons, List.map_nil]; rfl) ?_
        with_reducible refine (inner_Inner_Merged.calls k _ _ K _ _ L (Int.tmod (wrap64 a1) (L.length : Int)) 9 m1 m2 _ (Kd.C_below PK.out Q3.out) hq4 (Kd.C_below PL.out Q3.out) hq5 HM.out).mono ?_
        rintro e x4 ⟨vk, vl, rfl, ho, ho2, hb⟩
        refine ⟨_, rfl, ?_⟩
        obtain ⟨Avk, cvk, evk⟩ := Kd.R_slice ho
        subst evk
        obtain ⟨Avl, cvl, evl⟩ := Kd.R_slice ho2
        subst evl
        have Gvk := Lib.hid (InnerKeeps.Good.ofR (B := wE.heap.size) Q3.out.size ho)
        have Gvl := Lib.hid (InnerKeeps.Good.ofR (B := wE.heap.size) Q3.out.size ho2)
        have Ga' := Lib.hid (Ga.out.below hb)
        clear Ga
        have Ga := Ga'
        clear Ga'
        have Gb' := Lib.hid (Gb.out.below hb)
        clear Gb
        have Gb := Gb'
        clear Gb'
        have Gc' := Lib.hid (Gc.out.below hb)
        clear Gc
        have Gc := Gc'
        clear Gc'
        have Gd' := Lib.hid (Gd.out.below hb)
        clear Gd
        have Gd := Gd'
        clear Gd'
        have Gve' := Lib.hid (Gve.out.below hb)
        clear Gve
        have Gve := Gve'
        clear Gve'
        have Gvf' := Lib.hid (Gvf.out.below hb)
        clear Gvf
        have Gvf := Gvf'
        clear Gvf'
        have Gvg' := Lib.hid (Gvg.out.below hb)
        clear Gvg
        have Gvg := Gvg'
        clear Gvg'
        have Gvh' := Lib.hid (Gvh.out.below hb)
        clear Gvh
        have Gvh := Gvh'
        clear Gvh'
        have Gvi' := Lib.hid (Gvi.out.below hb)
        clear Gvi
        have Gvi := Gvi'
        clear Gvi'
        have Gvj' := Lib.hid (Gvj.out.below hb)
        clear Gvj
        have Gvj := Gvj'
        clear Gvj'
        have Q4 := Lib.hid (below_step Q3.out hb)
        have hb_ := Lib.hid hb
        clear ho ho2 hb Q3
        refine hK.out _ _ ⟨((hb_.out.cell (World.block_lt_of_cell? _ _ (hHeld.1))).trans (hHeld.1)), ((hb_.out.cell (World.block_lt_of_cell? _ _ (hHeld.2.1))).trans (hHeld.2.1)), ((hb_.out.cell (World.block_lt_of_cell? _ _ (hHeld.2.2.1))).trans (hHeld.2.2.1)), ((hb_.out.cell (World.block_lt_of_cell? _ _ (hHeld.2.2.2.1))).trans (hHeld.2.2.2.1)), ((hb_.out.cell (World.block_lt_of_cell? _ _ (hHeld.2.2.2.2.1))).trans (hHeld.2.2.2.2.1)), ((hb_.out.cell (World.block_lt_of_cell? _ _ (hHeld.2.2.2.2.2))).trans (hHeld.2.2.2.2.2))⟩ (fun hHeld => ?_)
        clear hK Kq
        refine norm_ (a' := ?_) ?_ ?_
        rotate_left
        · show Act.put _ (some 78) _ = _
          simp only [Act.put, List.setIfInBounds_toArray, List.set_cons_zero, List.set_cons_succ, i64_w, i32_w]
          rfl
        refine one_ (i := 19) (N := some 82) #[true, true, true, true, true, true, true, true, true, true, true, true, true, true, true, true, true, true, true, true, false, false, true] rfl rfl (by kernel_rfl) (by decide) (fun Kq hK => ?_)
        refine goes_ Try.func56 (by kernel_rfl) rfl #[.agg #[.slice (some ⟨g2, 0, none⟩) K.length c2r, .slice (some ⟨g3, 0, none⟩) L.length c3r], .int .i64 (Int.tmod (wrap64 a1) (L.length : Int)), .int .i64 8, .int .i64 a2, .int .i64 9] (by rfl) rfl rfl (by simp only [List.map_toArray, List.map_cons, List.map_nil]; rfl) ?_
        with_reducible refine (inner_Inner_Turned.calls _ _ K _ _ L (Int.tmod (wrap64 a1) (L.length : Int)) 8 a2 9 t1 t2 _ (Kd.C_below PK.out Q4.out) hq4 (Kd.C_below PL.out Q4.out) hq5 HT.out).mono ?_
        rintro e x5 ⟨vm, vn, rfl, ho, ho2, hb⟩
        refine ⟨_, rfl, ?_⟩
        obtain ⟨Avm, cvm, evm⟩ := Kd.R_slice ho
        subst evm
        obtain ⟨Avn, cvn, evn⟩ := Kd.R_slice ho2
        subst evn
        have Gvm := Lib.hid (InnerKeeps.Good.ofR (B := wE.heap.size) Q4.out.size ho)
        have Gvn := Lib.hid (InnerKeeps.Good.ofR (B := wE.heap.size) Q4.out.size ho2)
        have Ga' := Lib.hid (Ga.out.below hb)
        clear Ga
        have Ga := Ga'
        clear Ga'
        have Gb' := Lib.hid (Gb.out.below hb)
        clear Gb
        have Gb := Gb'
        clear Gb'
        have Gc' := Lib.hid (Gc.out.below hb)
        clear Gc
        have Gc := Gc'
        clear Gc'
        have Gd' := Lib.hid (Gd.out.below hb)
        clear Gd
        have Gd := Gd'
        clear Gd'
        have Gve' := Lib.hid (Gve.out.below hb)
        clear Gve
        have Gve := Gve'
        clear Gve'
        have Gvf' := Lib.hid (Gvf.out.below hb)
        clear Gvf
        have Gvf := Gvf'
        clear Gvf'
        have Gvg' := Lib.hid (Gvg.out.below hb)
        clear Gvg
        have Gvg := Gvg'
        clear Gvg'
        have Gvh' := Lib.hid (Gvh.out.below hb)
        clear Gvh
        have Gvh := Gvh'
        clear Gvh'
        have Gvi' := Lib.hid (Gvi.out.below hb)
        clear Gvi
        have Gvi := Gvi'
        clear Gvi'
        have Gvj' := Lib.hid (Gvj.out.below hb)
        clear Gvj
        have Gvj := Gvj'
        clear Gvj'
        have Gvk' := Lib.hid (Gvk.out.below hb)
        clear Gvk
        have Gvk := Gvk'
        clear Gvk'
        have Gvl' := Lib.hid (Gvl.out.below hb)
        clear Gvl
        have Gvl := Gvl'
        clear Gvl'
        have Q5 := Lib.hid (below_step Q4.out hb)
        have hb_ := Lib.hid hb
        clear ho ho2 hb Q4
        refine hK.out _ _ ⟨((hb_.out.cell (World.block_lt_of_cell? _ _ (hHeld.1))).trans (hHeld.1)), ((hb_.out.cell (World.block_lt_of_cell? _ _ (hHeld.2.1))).trans (hHeld.2.1)), ((hb_.out.cell (World.block_lt_of_cell? _ _ (hHeld.2.2.1))).trans (hHeld.2.2.1)), ((hb_.out.cell (World.block_lt_of_cell? _ _ (hHeld.2.2.2.1))).trans (hHeld.2.2.2.1)), ((hb_.out.cell (World.block_lt_of_cell? _ _ (hHeld.2.2.2.2.1))).trans (hHeld.2.2.2.2.1)), ((hb_.out.cell (World.block_lt_of_cell? _ _ (hHeld.2.2.2.2.2))).trans (hHeld.2.2.2.2.2))⟩ (fun hHeld => ?_)
        clear hK Kq
        refine norm_ (a' := ?_) ?_ ?_
        rotate_left
        · show Act.put _ (some 82) _ = _
          simp only [Act.put, List.setIfInBounds_toArray, List.set_cons_zero, List.set_cons_succ, i64_w, i32_w]
          rfl
        refine one_ (i := 20) (N := some 83) #[true, true, true, true, true, true, true, true, true, true, true, true, true, true, true, true, true, true, true, true, true, false, true] rfl rfl (by kernel_rfl) (by decide) (fun Kq hK => ?_)
        refine value_ (w1 := ?_) (v := ?_) (by rfl) rfl ?_ ?_
        rotate_left 2
        · go_simp
          constructor
          · rfl
          · rfl
        refine hK.out _ _ ⟨((World.cell?_alloc_lt _ _ _ (World.block_lt_of_cell? _ _ (hHeld.1))).trans (hHeld.1)), ((World.cell?_alloc_lt _ _ _ (World.block_lt_of_cell? _ _ (hHeld.2.1))).trans (hHeld.2.1)), ((World.cell?_alloc_lt _ _ _ (World.block_lt_of_cell? _ _ (hHeld.2.2.1))).trans (hHeld.2.2.1)), ((World.cell?_alloc_lt _ _ _ (World.block_lt_of_cell? _ _ (hHeld.2.2.2.1))).trans (hHeld.2.2.2.1)), ((World.cell?_alloc_lt _ _ _ (World.block_lt_of_cell? _ _ (hHeld.2.2.2.2.1))).trans (hHeld.2.2.2.2.1)), ((World.cell?_alloc_lt _ _ _ (World.block_lt_of_cell? _ _ (hHeld.2.2.2.2.2))).trans (hHeld.2.2.2.2.2))⟩ (fun hHeld => ?_)
        clear hK Kq
        refine norm_ (a' := ?_) ?_ ?_
        rotate_left
        · show Act.put _ (some 83) _ = _
          simp only [Act.put, List.setIfInBounds_toArray, List.set_cons_zero, List.set_cons_succ, i64_w, i32_w]
          rfl
        refine pure_ (i := 21) (N := some 84) (v := ?_) (a' := ?_) #[true, true, true, true, true, true, true, true, true, true, true, true, true, true, true, true, true, true, true, true, true, true, true] rfl rfl (by kernel_rfl) (fun _ _ _ h => h) (Or.inl ⟨by rfl, ?_⟩) ?_ ?_
        rotate_left
        · intro w'
          go_simp
          with_reducible rfl
        rotate_left
        · simp only [Act.put, List.setIfInBounds_toArray, List.set_cons_zero, List.set_cons_succ, i64_w, i32_w]
          rfl
        refine done_ (by kernel_rfl) ?_
        go_upto_block 0 with (fail)
        go_cut [85] (fun v85 wc => Hid (Below wE.heap.size wE wc))
        case first =>
          have hc : ∀ X, Below x5.heap.size x5 (x5.alloc X) := fun X => (Below.refl _ _).alloc (Nat.le_refl _) _
          refine InnerKeeps.settle (p := fun W => Code.wp _ _ _ _ W) (R := fun W => Hid (InnerKeeps.Lits wE.heap.size x5.heap.size W) ∧ Hid (Below wE.heap.size wE W)) ?_ ?_
          · refine ⟨Lib.hid ⟨_, heap_alloc_new x5 _, fun i hi => ?_⟩, Lib.hid (below_step Q5.out (hc _))⟩
            match i, hi with
            | 0, _ => exact ⟨_, _, rfl, rfl, Ga.out.below (hc _), Gb.out.below (hc _)⟩
            | 1, _ => exact ⟨_, _, rfl, rfl, Gc.out.below (hc _), Gd.out.below (hc _)⟩
            | 2, _ => exact ⟨_, _, rfl, rfl, Gve.out.below (hc _), Gvf.out.below (hc _)⟩
            | 3, _ => exact ⟨_, _, rfl, rfl, Gvg.out.below (hc _), Gvh.out.below (hc _)⟩
            | 4, _ => exact ⟨_, _, rfl, rfl, Gvi.out.below (hc _), Gvj.out.below (hc _)⟩
            | 5, _ => exact ⟨_, _, rfl, rfl, Gvk.out.below (hc _), Gvl.out.below (hc _)⟩
            | 6, _ => exact ⟨_, _, rfl, rfl, Gvm.out.below (hc _), Gvn.out.below (hc _)⟩
            | i + 7, hi => omega
          clear hc
          rintro W0 ⟨HLits, HBel⟩
          go_wp2_with fail
          go_loopg [85] 7 (fun gk v85 W => ∃ i : Nat, v85 = .int .i64 (i : Int) ∧ i ≤ 7 ∧ 7 - i ≤ gk ∧ Hid (InnerKeeps.Lits wE.heap.size x5.heap.size W) ∧ Hid (Below wE.heap.size wE W))
          case atStart => exact ⟨0, rfl, by omega, by omega, HLits, HBel⟩
          case round =>
            clear HLits HBel
            obtain ⟨i, rfl, hi7, hgk, HLits, HBel⟩ := hrel
            by_cases hi : i < 7
            · obtain ⟨cur, hL1, hL3⟩ := HLits.out
              obtain ⟨va, vb, hv1, hv2, HG1, HG2⟩ := hL3 i hi
              have hc0 : wr.cell? ⟨x5.heap.size, i * 2, none⟩ = some va := (cells_cell hL1 _).trans hv1
              have hc1 : wr.cell? ⟨x5.heap.size, i * 2 + 1, none⟩ = some vb := (cells_cell hL1 _).trans hv2
              have HGa := Lib.hid HG1
              have HGb := Lib.hid HG2
              clear hL1 hL3 hv1 hv2 HG1 HG2
              obtain ⟨Ax, nx, cx, rfl, hnx⟩ : ∃ A n c, va = .slice A n c ∧ n ≤ 9223372036854775807 := by
                obtain ⟨A, n, c, e, hn, _⟩ := HGa.out
                exact ⟨_, _, _, e, hn⟩
              obtain ⟨Ay, ny, cy, rfl, hny⟩ : ∃ A n c, vb = .slice A n c ∧ n ≤ 9223372036854775807 := by
                obtain ⟨A, n, c, e, hn, _⟩ := HGb.out
                exact ⟨_, _, _, e, hn⟩
              have hid : decide ((i : Int) < 7) = true := decide_eq_true (by omega)
              have hiw : IntKind.i64.wrap ((i : Int) + 1) = (i : Int) + 1 := by rw [IntKind.wrap_i64]; omega
              go_upto_region 15 with (fail)
              have hd : ∀ X, Below wr.heap.size wr (wr.alloc X) := fun X => (Below.refl _ _).alloc (Nat.le_refl _) _
              refine InnerKeeps.settle (p := fun W => Code.wp _ _ _ _ W) (R := fun W => Hid (InnerKeeps.Lits wE.heap.size x5.heap.size W) ∧ Hid (W.heap[wr.heap.size]? = some (.cells #[.slice Ax nx cx, .slice Ay ny cy] 26 (0, 0))) ∧ Hid (InnerKeeps.Good 2 wE.heap.size W (.slice Ax nx cx)) ∧ Hid (InnerKeeps.Good 47 wE.heap.size W (.slice Ay ny cy)) ∧ Hid (Below wE.heap.size wE W)) ⟨Lib.hid (HLits.out.below (hd _)), Lib.hid (heap_alloc_new wr _), Lib.hid (HGa.out.below (hd _)), Lib.hid (HGb.out.below (hd _)), Lib.hid (below_step HBel.out (hd _))⟩ ?_
              clear hd HLits HGa HGb HBel hc0 hc1
              generalize wr.heap.size = g15
              rintro wH ⟨HLits, X15, HGx, HGy, HBel⟩
              have y0 : wH.cell? ⟨g15, 0, none⟩ = some (.slice Ax nx cx) := (blk_cell X15.out 0).trans rfl
              have y1 : wH.cell? ⟨g15, 1, none⟩ = some (.slice Ay ny cy) := (blk_cell X15.out 1).trans rfl
              go_wp2_with fail
              go_loopg [92] nx (fun gk2 vj W => ∃ t : Nat, vj = .int .i64 (t : Int) ∧ t ≤ nx ∧ nx - t ≤ gk2 ∧ Hid (InnerKeeps.Lits wE.heap.size x5.heap.size W) ∧ Hid (W.heap[g15]? = some (.cells #[.slice Ax nx cx, .slice Ay ny cy] 26 (0, 0))) ∧ Hid (InnerKeeps.Good 2 wE.heap.size W (.slice Ax nx cx)) ∧ Hid (InnerKeeps.Good 47 wE.heap.size W (.slice Ay ny cy)) ∧ Hid (Below wE.heap.size wE W))
              case atStart => exact ⟨0, rfl, by omega, by omega, HLits, X15, HGx, HGy, HBel⟩
              case round =>
                clear HLits X15 HGx HGy HBel
                obtain ⟨t, rfl, htn, hgk2, HLits, X15, HGx, HGy, HBel⟩ := hrel
                have y0 : wr.cell? ⟨g15, 0, none⟩ = some (.slice Ax nx cx) := (blk_cell X15.out 0).trans rfl
                have y1 : wr.cell? ⟨g15, 1, none⟩ = some (.slice Ay ny cy) := (blk_cell X15.out 1).trans rfl
                by_cases ht : t < nx
                · obtain ⟨A', n', c', e0, hn', hz | ⟨gv, curv, eA, hB, hh, hs⟩⟩ := HGx.out
                  · injection e0 with e1 e2 e3
                    omega
                  · injection e0 with e1 e2 e3
                    subst e1 e2 e3 eA
                    obtain ⟨u0, hu0⟩ : ∃ u, curv.toList[t]? = some u := ⟨_, List.getElem?_eq_getElem (by rw [Array.length_toList]; omega)⟩
                    have hx0 : wr.cell? ⟨gv, t, none⟩ = some u0 := (cells_cell hh _).trans hu0
                    have hf0 : wr.frozen? ⟨gv, t, none⟩ = false := cells_free hh _
                    have hne := Lib.hid (HLits.out.ne hh (by decide))
                    have hne2 := Lib.hid (InnerKeeps.blk_ne X15.out hh (by decide))
                    have hBg := Lib.hid hB
                    have htd : decide ((t : Int) < (nx : Int)) = true := decide_eq_true (by omega)
                    have htw : IntKind.i64.wrap ((t : Int) + 1) = (t : Int) + 1 := by rw [IntKind.wrap_i64]; omega
                    clear hu0 hh hs hB
                    go_wp2
                    go_roundg (nx - (t + 1))
                    case measure => omega
                    case rel => exact ⟨t + 1, by simp, by omega, Nat.le_refl _, Lib.hid (HLits.out.set hne.out _ _), Lib.hid (blk_far X15.out hne2.out _), Lib.hid (HGx.out.set _ _ _), Lib.hid (HGy.out.set _ _ _), Lib.hid (HBel.out.setCell hBg.out _)⟩
                · obtain rfl : nx = t := by omega
                  go_wp2_with fail
                  go_loopg [103] ny (fun gk2 vj W => ∃ t : Nat, vj = .int .i64 (t : Int) ∧ t ≤ ny ∧ ny - t ≤ gk2 ∧ Hid (InnerKeeps.Lits wE.heap.size x5.heap.size W) ∧ Hid (W.heap[g15]? = some (.cells #[.slice Ax nx cx, .slice Ay ny cy] 26 (0, 0))) ∧ Hid (InnerKeeps.Good 2 wE.heap.size W (.slice Ax nx cx)) ∧ Hid (InnerKeeps.Good 47 wE.heap.size W (.slice Ay ny cy)) ∧ Hid (Below wE.heap.size wE W))
                  case atStart => exact ⟨0, rfl, by omega, by omega, HLits, X15, HGx, HGy, HBel⟩
                  case round =>
                    clear HLits X15 HGx HGy HBel
                    obtain ⟨t, rfl, htn, hgk2, HLits, X15, HGx, HGy, HBel⟩ := hrel
                    have y0 : wr.cell? ⟨g15, 0, none⟩ = some (.slice Ax nx cx) := (blk_cell X15.out 0).trans rfl
                    have y1 : wr.cell? ⟨g15, 1, none⟩ = some (.slice Ay ny cy) := (blk_cell X15.out 1).trans rfl
                    by_cases ht : t < ny
                    · obtain ⟨A', n', c', e0, hn', hz | ⟨gv, curv, eA, hB, hh, hs⟩⟩ := HGy.out
                      · injection e0 with e1 e2 e3
                        omega
                      · injection e0 with e1 e2 e3
                        subst e1 e2 e3 eA
                        obtain ⟨u0, hu0⟩ : ∃ u, curv.toList[t]? = some u := ⟨_, List.getElem?_eq_getElem (by rw [Array.length_toList]; omega)⟩
                        have hx0 : wr.cell? ⟨gv, t, none⟩ = some u0 := (cells_cell hh _).trans hu0
                        have hf0 : wr.frozen? ⟨gv, t, none⟩ = false := cells_free hh _
                        have hne := Lib.hid (HLits.out.ne hh (by decide))
                        have hne2 := Lib.hid (InnerKeeps.blk_ne X15.out hh (by decide))
                        have hBg := Lib.hid hB
                        have htd : decide ((t : Int) < (ny : Int)) = true := decide_eq_true (by omega)
                        have htw : IntKind.i64.wrap ((t : Int) + 1) = (t : Int) + 1 := by rw [IntKind.wrap_i64]; omega
                        clear hu0 hh hs hB
                        go_wp2
                        go_roundg (ny - (t + 1))
                        case measure => omega
                        case rel => exact ⟨t + 1, by simp, by omega, Nat.le_refl _, Lib.hid (HLits.out.set hne.out _ _), Lib.hid (blk_far X15.out hne2.out _), Lib.hid (HGx.out.set _ _ _), Lib.hid (HGy.out.set _ _ _), Lib.hid (HBel.out.setCell hBg.out _)⟩
                    · obtain rfl : ny = t := by omega
                      go_wp2
                      go_roundg (7 - (i + 1))
                      case measure => omega
                      case rel => exact ⟨i + 1, by simp, by omega, Nat.le_refl _, HLits, HBel⟩
            · obtain rfl : i = 7 := by omega
              go_wp2
              go_meet
              case rel => exact HBel
        case rest =>
          have BX := hcut
          clear hcut Ga Gb Gc Gd Gve Gvf Gvg Gvh Gvi Gvj Gvk Gvl Gvm Gvn Q5 HH HI HBb HJ HM HT
          have o0 : wc.cell? ⟨w2.heap.size, 0, none⟩ = some (.slice AK K.length cK) := (blk_cell (blk_below X7.out BX.out) 0).trans rfl
          have o1 : wc.cell? ⟨w2.heap.size, 1, none⟩ = some (.slice AL L.length cL) := (blk_cell (blk_below X7.out BX.out) 1).trans rfl
          have n0 : wc.cell? ⟨wD.heap.size, 0, none⟩ = some (.slice (some ⟨g2, 0, none⟩) K.length c2r) := (blk_cell (blk_below X9.out BX.out) 0).trans rfl
          have n1 : wc.cell? ⟨wD.heap.size, 1, none⟩ = some (.slice (some ⟨g3, 0, none⟩) L.length c3r) := (blk_cell (blk_below X9.out BX.out) 1).trans rfl
          have k0 : (K ++ ([1, 2, 3] : List Int))[L.length - 1]? = some 1 := by
            have := HKL.out
            rw [List.getElem?_append_right (by omega), show L.length - 1 - K.length = 0 by omega]
            rfl
          have k1 : (K ++ ([1, 2, 3] : List Int))[L.length + 1]? = some 3 := by
            have := HKL.out
            rw [List.getElem?_append_right (by omega), show L.length + 1 - K.length = 2 by omega]
            rfl
          have k2 : (L ++ ([1, 2, 3] : List Int))[L.length]? = some 1 := by
            rw [List.getElem?_append_right (by omega), Nat.sub_self]
            rfl
          have k3 : (L ++ ([1, 2, 3] : List Int))[L.length + 2]? = some 3 := by
            rw [List.getElem?_append_right (by omega), Nat.add_sub_cancel_left]
            rfl
          have KK := Lib.hid (And.intro k0 (And.intro k1 (And.intro k2 k3)))
          clear k0 k1 k2 k3
          have hKL' := HKL.out
          have u1 : IntKind.i64.wrap ((L.length : Int) - 1) = (L.length : Int) - 1 := by rw [IntKind.wrap_i64]; omega
          have u2 : IntKind.i64.wrap ((L.length : Int) + 1) = (L.length : Int) + 1 := by rw [IntKind.wrap_i64]; omega
          have u3 : IntKind.i64.wrap ((L.length : Int) + 2) = (L.length : Int) + 2 := by rw [IntKind.wrap_i64]; omega
          have s1 : (0 : Int) ≤ (L.length : Int) - 1 := by omega
          have s2 : (L.length : Int) - 1 < (K.length : Int) + 3 := by omega
          have s3 : (0 : Int) ≤ (L.length : Int) + 1 := by omega
          have s4 : (L.length : Int) + 1 < (K.length : Int) + 3 := by omega
          have s5 : (L.length : Int) < (L.length : Int) + 3 := by omega
          have s6 : (0 : Int) ≤ (L.length : Int) + 2 := by omega
          have s7 : (L.length : Int) + 2 < (L.length : Int) + 3 := by omega
          have s8 : ((L.length : Int) - 1).toNat = L.length - 1 := by omega
          have s9 : ((L.length : Int) + 1).toNat = L.length + 1 := by omega
          have s10 : ((L.length : Int) + 2).toNat = L.length + 2 := by omega
          clear hKL' z0 z1
          cases r with
          | true =>
            go_wp2_with (go_at_call 51; refine (boscagelaw03_Same.calls k _ _ K _ _ L _ _ K _ _ L true _ ?_ hq4 ?_ hq5 ?_ CK.out.1 ?_ CL.out.1 HSm.out).mono ?_; (exact Kd.C_below PK.out BX.out); (exact Kd.C_below PL.out BX.out); (exact Kd.C_below KA.out BX.out); (exact Kd.C_below LA.out BX.out); rintro e w13 ⟨rfl, hb⟩; have B13 := Lib.hid (below_step BX.out hb); clear hb; have a0 : w13.cell? ⟨w4.heap.size, 0, none⟩ = some (.slice (some ⟨g2, 0, none⟩) (K.length + 3) c2r) := (blk_cell (blk_below X8.out B13.out) 0).trans rfl; have a1_ : w13.cell? ⟨w4.heap.size, 1, none⟩ = some (.slice (some ⟨g3, 0, none⟩) (L.length + 3) c3r) := (blk_cell (blk_below X8.out B13.out) 1).trans rfl; have v0 := InnerKeeps.at1 R2.out KK.out.1 B13.out; have v1 := InnerKeeps.at1 R2.out KK.out.2.1 B13.out; have v2 := InnerKeeps.at1 R3.out KK.out.2.2.1 B13.out; have v3 := InnerKeeps.at1 R3.out KK.out.2.2.2 B13.out)
            go_ret
            exact ⟨rfl, below_step (below_step BA.out BB.out) B13.out⟩
          | false =>
            go_wp2_with (go_at_call 51; refine (boscagelaw03_Same.calls k _ _ K _ _ L _ _ K _ _ L false _ ?_ hq4 ?_ hq5 ?_ CK.out.1 ?_ CL.out.1 HSm.out).mono ?_; (exact Kd.C_below PK.out BX.out); (exact Kd.C_below PL.out BX.out); (exact Kd.C_below KA.out BX.out); (exact Kd.C_below LA.out BX.out); rintro e w13 ⟨rfl, hb⟩; have B13 := Lib.hid (below_step BX.out hb); clear hb)
            go_ret
            exact ⟨rfl, below_step (below_step BA.out BB.out) B13.out⟩
      · cases h
end Go.Proofs.Ytkoiffkonjpoiaa.Q
