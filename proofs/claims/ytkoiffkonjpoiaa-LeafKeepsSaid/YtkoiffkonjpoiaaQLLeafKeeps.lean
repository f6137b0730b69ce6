/- The walk of LeafKeeps, by hand: what the law does in memory, told by a plain function; under the contract's own conditions alone. -/
import Derived.Test.YtkoiffkonjpoiaaQA1
import Derived.Test.YtkoiffkonjpoiaaQA2
import Derived.Test.YtkoiffkonjpoiaaQA3
import Derived.Test.YtkoiffkonjpoiaaQA4
import Derived.Test.YtkoiffkonjpoiaaQ0
namespace Go.Proofs.Ytkoiffkonjpoiaa.Q
open Go.RowKit Go.Proofs.YtkoiffkonjpoiaaW.PrintWords Go.Proofs.YtkoiffkonjpoiaaW.PrintLast Go.Proofs.YtkoiffkonjpoiaaW.PrintMore Go.Proofs.YtkoiffkonjpoiaaX
attribute [local go_sem] max2_int min2_int max_two min_two max_three min_three max_four min_four   -- for this text's walks alone
set_option linter.unusedVariables false
set_option linter.unusedSimpArgs false
/-! ### boscagelaw02_LeafKeeps: function 18 (by hand) -/
def boscagelaw02_LeafKeeps.f (k : Nat) (l0 : List Int) (a1 a2 : Int) : Option Bool := (boscagelaw02_Awake.f).bind fun t => if t = true then (if (l0.length : Int) > 40 then some true else (boscagelaw02_Rising.f k l0).bind fun W => if W.length < 1000 then ((leaf_Leaf_Put.f W a1 a2).bind fun _ => (leaf_Leaf_Cut.f W a1).bind fun _ => (leaf_Leaf_Halves.f W).bind fun _ => (leaf_Leaf_Join.f W W).bind fun _ => (leaf_Leaf_Between.f k W a1 a2).bind fun _ => boscagelaw02_Same.f k W W) else none) else some false
theorem LeafKeeps.settle {p : World → Prop} {w : World} (R : World → Prop) (h : R w) (k : ∀ W, R W → p W) : p w := k w h
/-- A row of memory of its own, from block B on. -/
def LeafKeeps.Good (B : Nat) (W : World) (v : Value) : Prop := ∃ n c, (v = .slice none n c ∧ n = 0) ∨ ∃ g cur, v = .slice (some ⟨g, 0, none⟩) n c ∧ B ≤ g ∧ n ≤ c ∧ c ≤ 9223372036854775807 ∧ W.heap[g]? = some (.cells cur 40 (0, 0)) ∧ n * 2 ≤ cur.size
theorem LeafKeeps.Good.ofR {B base : Nat} {W : World} {ok : Nat → Prop} {v : Value} {xs : List S40} (hB : B ≤ base) (h : Kd.R k40 40 W base ok v xs) : LeafKeeps.Good B W v := by
  obtain ⟨_, _, hv⟩ := (R_iff flat40).1 h
  rcases hv with ⟨rfl, h0⟩ | ⟨g, cap, cur, rfl, hb, hg, hn, hm, hs, _⟩
  · exact ⟨0, 0, .inl ⟨rfl, rfl⟩⟩
  · exact ⟨xs.length, cap, .inr ⟨g, cur, rfl, by omega, hn, by simpa [maxLen] using hm, hg, by rw [hs]; exact Nat.mul_le_mul_right _ hn⟩⟩
theorem LeafKeeps.Good.below {B : Nat} {W W' : World} {v : Value} (h : LeafKeeps.Good B W v) (hb : Below W.heap.size W W') : LeafKeeps.Good B W' v := by
  obtain ⟨n, c, h | ⟨g, cur, h1, h2, h3, h4, h5, h6⟩⟩ := h
  · exact ⟨n, c, .inl h⟩
  · exact ⟨n, c, .inr ⟨g, cur, h1, h2, h3, h4, (hb.block g (Array.getElem?_eq_some_iff.1 h5).1).trans h5, h6⟩⟩
theorem LeafKeeps.Good.set {B : Nat} {W : World} {v : Value} (h : LeafKeeps.Good B W v) (b i : Nat) (u : Value) : LeafKeeps.Good B (W.setCell ⟨b, i, none⟩ u) v := by
  obtain ⟨n, c, h | ⟨g, cur, h1, h2, h3, h4, h5, h6⟩⟩ := h
  · exact ⟨n, c, .inl h⟩
  · by_cases hgb : g = b
    · subst hgb
      exact ⟨n, c, .inr ⟨g, _, h1, h2, h3, h4, setCell_heap_at W g i u h5, by simpa using h6⟩⟩
    · exact ⟨n, c, .inr ⟨g, cur, h1, h2, h3, h4, (Below.heap_setCell W _ u g hgb).trans h5, h6⟩⟩
/-- The block that holds the rows. -/
def LeafKeeps.Lits (B gl : Nat) (W : World) : Prop := ∃ cur, W.heap[gl]? = some (.cells cur 34 (0, 0)) ∧ cur.size = 6 ∧ ∀ (i : Nat) v, cur.toList[i]? = some v → LeafKeeps.Good B W v
theorem LeafKeeps.Lits.set {B gl g : Nat} {W : World} (h : LeafKeeps.Lits B gl W) (hne : gl ≠ g) (i : Nat) (u : Value) : LeafKeeps.Lits B gl (W.setCell ⟨g, i, none⟩ u) := by
  obtain ⟨cur, h1, h2, h3⟩ := h
  exact ⟨cur, (Below.heap_setCell W _ u gl hne).trans h1, h2, fun j v hv => (h3 j v hv).set g i u⟩
theorem LeafKeeps.Lits.ne {B gl g : Nat} {W : World} {cur : Array Value} (h : LeafKeeps.Lits B gl W) (hg : W.heap[g]? = some (.cells cur 40 (0, 0))) : gl ≠ g := by
  rintro rfl
  obtain ⟨cur', h1, _⟩ := h
  rw [hg] at h1
  simp at h1
theorem LeafKeeps.C_pre {w : World} {A : Option Addr} {xs ys : List S40} (hm : (xs ++ ys).length ≤ 9223372036854775807) (h : Kd.C k40 w A (xs ++ ys).length (xs ++ ys)) : Kd.C k40 w A xs.length xs := by
  have hm' : xs.length ≤ 9223372036854775807 := by simp at hm; omega
  refine (C_iff flat40 hm').2 ?_
  rcases (C_iff flat40 hm).1 h with h0 | ⟨b, o, hA, hc⟩
  · rw [List.flatMap_append] at h0
    exact .inl (List.append_eq_nil_iff.1 h0).1
  · refine .inr ⟨b, o, hA, fun j u hj => hc j u ?_⟩
    rw [List.flatMap_append, List.getElem?_append_left (List.getElem?_eq_some_iff.1 hj).1]
    exact hj
set_option maxHeartbeats 8000000 in
set_option maxRecDepth 100000 in
theorem boscagelaw02_LeafKeeps.calls (k : Nat) (A0 : Option Addr) (c0 : Nat) (l0 : List Int) (a1 a2 : Int) (r : Bool) (w : World) (hr0 : Kd.C (Kd.int .i64) w A0 l0.length l0) (hc0 : l0.length ≤ c0) (h : boscagelaw02_LeafKeeps.f k l0 a1 a2 = some r) :
    Calls Try.prog 18 #[.slice A0 l0.length c0, .int .i64 a1, .int .i64 a2] w fun e w' => e = .returned (.bool r) ∧ Below w.heap.size w w' := by
  have hu40 := Try.underlying40
  have HR0 := Lib.hid hr0
  have HC0 := Lib.hid hc0
  clear hr0 hc0
  unfold boscagelaw02_LeafKeeps.f at h
  obtain ⟨tA, hA, h⟩ := Option.bind_eq_some_iff.mp h
  have HA := Lib.hid hA
  clear hA
  cases tA with
  | false =>
    rw [if_neg (by decide)] at h
    obtain rfl := Option.some.inj h
    clear h
    go_enter Try.func18, Try.ntmps18
    go_wp2_with (go_at_call 43; refine (boscagelaw02_Awake.calls false _ HA.out).mono ?_; rintro e w1 ⟨rfl, hb⟩)
    go_ret
    exact ⟨rfl, hb⟩
  | true =>
    rw [if_pos rfl] at h
    by_cases h40 : (l0.length : Int) > 40
    · rw [if_pos h40] at h
      obtain rfl := Option.some.inj h
      clear h
      have hd : decide (40 < (l0.length : Int)) = true := decide_eq_true h40
      have hd1 : decide (40 < l0.length) = true := decide_eq_true (by omega)
      clear h40
      go_enter Try.func18, Try.ntmps18
      go_wp2_with (go_at_call 43; refine (boscagelaw02_Awake.calls true _ HA.out).mono ?_; rintro e w1 ⟨rfl, hb⟩)
      go_ret
      exact ⟨rfl, hb⟩
    · rw [if_neg h40] at h
      have hd : decide (40 < (l0.length : Int)) = false := decide_eq_false h40
      have hd1 : decide (40 < l0.length) = false := decide_eq_false (by omega)
      clear h40
      obtain ⟨L, hL, h⟩ := Option.bind_eq_some_iff.mp h
      have HL := Lib.hid hL
      clear hL
      split at h
      · rename_i hlen
        obtain ⟨⟨p1, p2, p3⟩, hP, h⟩ := Option.bind_eq_some_iff.mp h
        obtain ⟨⟨q1, q2, q3⟩, hQ, h⟩ := Option.bind_eq_some_iff.mp h
        obtain ⟨⟨s1, s2, s3⟩, hS, h⟩ := Option.bind_eq_some_iff.mp h
        obtain ⟨j1, hJ, h⟩ := Option.bind_eq_some_iff.mp h
        obtain ⟨b1, hBt, h⟩ := Option.bind_eq_some_iff.mp h
        have HP := Lib.hid hP
        have HQ := Lib.hid hQ
        have HS := Lib.hid hS
        have HJ := Lib.hid hJ
        have HBt := Lib.hid hBt
        have HSm := Lib.hid h
        clear hP hQ hS hJ hBt h
        go_enter Try.func18, Try.ntmps18
        go_upto_region 9 with (first | (go_at_call 43; refine (boscagelaw02_Awake.calls true _ HA.out).mono ?_; rintro e w1 ⟨rfl, hb1⟩; have HB1 := Lib.hid hb1; clear hb1) | (go_at_call 44; refine (boscagelaw02_Rising.calls k _ _ l0 L _ ?_ HC0.out HL.out).mono ?_; (exact Kd.C_below HR0.out HB1.out); rintro e w2 ⟨vL, rfl, ho, hb2⟩; obtain ⟨AL, cL, rfl⟩ := Kd.R_slice ho; have CW := Lib.hid (Kd.R_reads' ho).2; have HB2 := Lib.hid (below_step HB1.out hb2); clear ho hb2) | ((with_reducible refine gate_dst (N := 32) rfl ?_); (try (refine gate_guard (by rfl) ?_; dsimp only)); refine Kd.R_lit k40 _ 40 ?hg (N := 32) ?hd (xs := ([] : List (S40))) (inner := []) (ok := fun _ => True) (okp := fun _ => True) ?hr ?hp (fun _ hk => hk) trivial (Below.refl _ _) (Nat.le_refl _) (by simp) ?_; (case hd => rfl); (case hg => rfl); (case hr => first | (go_simp; done) | (go_simp; rfl)); (case hp => exact (Reps.none _ _)); intro v32 w3 ho32 hb32 hg_ hnew_; clear hg_ hnew_; have O32 := Lib.hid ho32; have B32 := Lib.hid hb32; clear ho32 hb32) | ((with_reducible refine gate_builtin (b := .append) (xs := #[.tmp 32, .tmp 33]) rfl ?_); (try (refine gate_guard (by rfl) ?_; dsimp only)); at_builtin; refine Kd.R_append_rows k40 (w0 := w2) w2.heap.size rfl (.tmp 32) (.tmp 33) 34 40 (.agg #[(.int .i64 0), (.int .i64 0)]) 16 rfl Try.underlying34 info40 rfl (by decide) (by omega) v32 [] L _ _ _ (fun _ => True) (fun _ => False) rfl rfl ?aO ?aR (fun _ _ h => h) (fun _ h => h.elim) ?aF ?aB ?aS ?aL ?_; (case aR => exact Kd.C_below CW.out.2 B32.out); (case aB => exact B32.out); (case aF => exact fun _ _ => trivial); (case aO => exact O32.out); (case aS => exact B32.out.size); (case aL => simp; omega); intro v34 w4 ho hb hg hat; clear hg hat; have O34 := Lib.hid ho; have B34 := Lib.hid hb; clear ho hb O32 B32) | ((with_reducible refine gate_dst (N := 38) rfl ?_); (try (refine gate_guard (by rfl) ?_; dsimp only)); refine Kd.R_lit k40 _ 40 ?hg (N := 38) ?hd (xs := ([(⟨7, 7⟩ : S40), (⟨8, 8⟩ : S40), (⟨9, 9⟩ : S40)] : List (S40))) (inner := [.int .i64 7, .int .i64 7, .int .i64 8, .int .i64 8, .int .i64 9, .int .i64 9]) (ok := fun _ => True) (okp := fun _ => True) ?hr ?hp (fun _ hk => hk) trivial (Below.refl _ _) (Nat.le_refl _) (by simp) ?_; (case hd => rfl); (case hg => rfl); (case hr => first | (go_simp; done) | (go_simp; rfl)); (case hp => exact (Reps.c2 (show Kd.M k40 _ _ _ (⟨7, 7⟩ : S40) [.int .i64 7, .int .i64 7] from (k40_mkM _ _ _ (⟨7, 7⟩ : S40) )) (Reps.c2 (show Kd.M k40 _ _ _ (⟨8, 8⟩ : S40) [.int .i64 8, .int .i64 8] from (k40_mkM _ _ _ (⟨8, 8⟩ : S40) )) (Reps.c2 (show Kd.M k40 _ _ _ (⟨9, 9⟩ : S40) [.int .i64 9, .int .i64 9] from (k40_mkM _ _ _ (⟨9, 9⟩ : S40) )) (Reps.none _ _))))); intro v38 w5 ho38 hb38 hg_ hnew_; clear hg_ hnew_; have O38 := Lib.hid ho38; have O34' := Lib.hid (Kd.R_below O34.out hb38); have B38 := Lib.hid (below_step B34.out hb38); clear ho38 hb38 O34 B34; have O34 := O34'; clear O34') | ((with_reducible refine gate_builtin (b := .append) (xs := #[.tmp 34, .tmp 38]) rfl ?_); (try (refine gate_guard (by rfl) ?_; dsimp only)); obtain ⟨A38, c38, e38⟩ := Kd.R_slice O38.out; subst e38; at_builtin; refine Kd.R_append_rows k40 (w0 := w2) w2.heap.size rfl (.tmp 34) (.tmp 38) 34 40 (.agg #[(.int .i64 0), (.int .i64 0)]) 16 rfl Try.underlying34 info40 rfl (by decide) (by omega) v34 ([] ++ L) ([(⟨7, 7⟩ : S40), (⟨8, 8⟩ : S40), (⟨9, 9⟩ : S40)] : List (S40)) _ _ _ (fun _ => True) (fun _ => False) rfl rfl ?aO ?aR (fun _ _ h => h) (fun _ h => h.elim) ?aF ?aB ?aS ?aL ?_; (case aR => exact (Kd.R_reads' O38.out).2.2); (case aB => exact B38.out); (case aF => exact fun _ _ => trivial); (case aO => exact O34.out); (case aS => exact B38.out.size); (case aL => simp; omega); intro v39 w6 ho hb hg hat; clear hg hat; rw [List.nil_append] at ho; obtain ⟨gr, cr, er, gbr, glr, clr, HGr⟩ := Kd.R_form ho (by simp); cases er; have CR := Lib.hid (Kd.R_reads' ho).2; have B39 := Lib.hid hb; have hcr : L.length ≤ cr := (by have := CR.out.1; simp at this; omega); clear ho hb O34 O38 B38 HGr clr))
        have CP := Lib.hid (LeafKeeps.C_pre (by have := C_len CR.out.2; exact this) CR.out.2)
        go_upto_block 0 with (first | (go_at_call 68; refine (leaf_Leaf_Put.calls _ _ L a1 a2 p1 p2 p3 _ ?_ hcr HP.out).mono ?_; (exact CP.out); rintro e w7 ⟨va, rfl, ho, hb⟩; obtain ⟨Aa, ca, ea⟩ := Kd.R_slice ho; subst ea; have Ga := Lib.hid (LeafKeeps.Good.ofR (B := w6.heap.size) (Nat.le_refl _) ho); have B7 := Lib.hid hb; clear ho hb) | (go_at_call 66; refine (leaf_Leaf_Cut.calls _ _ L a1 q1 q2 q3 _ ?_ hcr HQ.out).mono ?_; (exact Kd.C_below CP.out B7.out); rintro e w8 ⟨vb, rfl, ho, hb⟩; obtain ⟨Ab, cb, eb⟩ := Kd.R_slice ho; subst eb; have Gb := Lib.hid (LeafKeeps.Good.ofR (B := w6.heap.size) B7.out.size ho); have Ga' := Lib.hid (Ga.out.below hb); have B8 := Lib.hid (below_step B7.out hb); clear ho hb Ga; have Ga := Ga'; clear Ga') | (go_at_call 47; refine (leaf_Leaf_Halves.calls _ _ L s1 s2 s3 _ ?_ hcr HS.out).mono ?_; (exact Kd.C_below CP.out B8.out); rintro e w9 ⟨vc, vd, rfl, ho, ho2, hb⟩; obtain ⟨Ac, cc, ec⟩ := Kd.R_slice ho; subst ec; obtain ⟨Ad, cd, ed⟩ := Kd.R_slice ho2; subst ed; have Gc := Lib.hid (LeafKeeps.Good.ofR (B := w6.heap.size) B8.out.size ho); have Gd := Lib.hid (LeafKeeps.Good.ofR (B := w6.heap.size) B8.out.size ho2); have Ga' := Lib.hid (Ga.out.below hb); have Gb' := Lib.hid (Gb.out.below hb); have B9 := Lib.hid (below_step B8.out hb); clear ho ho2 hb Ga Gb; have Ga := Ga'; have Gb := Gb'; clear Ga' Gb') | (go_at_call 60; refine (leaf_Leaf_Join.calls _ _ L _ _ L j1 _ ?_ hcr ?_ hcr HJ.out).mono ?_; (exact Kd.C_below CP.out B9.out); (exact Kd.C_below CP.out B9.out); rintro e w10 ⟨vj, rfl, ho, hb⟩; obtain ⟨Aj, cj, ej⟩ := Kd.R_slice ho; subst ej; have Gj := Lib.hid (LeafKeeps.Good.ofR (B := w6.heap.size) B9.out.size ho); have Ga' := Lib.hid (Ga.out.below hb); have Gb' := Lib.hid (Gb.out.below hb); have Gc' := Lib.hid (Gc.out.below hb); have Gd' := Lib.hid (Gd.out.below hb); have B10 := Lib.hid (below_step B9.out hb); clear ho hb Ga Gb Gc Gd; have Ga := Ga'; have Gb := Gb'; have Gc := Gc'; have Gd := Gd'; clear Ga' Gb' Gc' Gd') | (go_at_call 64; refine (leaf_Leaf_Between.calls k _ _ L a1 a2 b1 _ ?_ hcr HBt.out).mono ?_; (exact Kd.C_below CP.out B10.out); rintro e w11 ⟨vt, rfl, ho, hb⟩; obtain ⟨At, ct, et⟩ := Kd.R_slice ho; subst et; have Gt := Lib.hid (LeafKeeps.Good.ofR (B := w6.heap.size) B10.out.size ho); have Ga' := Lib.hid (Ga.out.below hb); have Gb' := Lib.hid (Gb.out.below hb); have Gc' := Lib.hid (Gc.out.below hb); have Gd' := Lib.hid (Gd.out.below hb); have Gj' := Lib.hid (Gj.out.below hb); have B11 := Lib.hid (below_step B10.out hb); clear ho hb Ga Gb Gc Gd Gj; have Ga := Ga'; have Gb := Gb'; have Gc := Gc'; have Gd := Gd'; have Gj := Gj'; clear Ga' Gb' Gc' Gd' Gj'))
        go_cut [77] (fun v77 wc => Hid (Below w6.heap.size w6 wc))
        case first =>
          have hc : ∀ X, Below w11.heap.size w11 (w11.alloc X) := fun X => (Below.refl _ _).alloc (Nat.le_refl _) _
          refine LeafKeeps.settle (p := fun W => Code.wp _ _ _ _ W) (R := fun W => Hid (LeafKeeps.Lits w6.heap.size w11.heap.size W) ∧ Hid (Below w6.heap.size w6 W)) ?_ ?_
          · refine ⟨Lib.hid ⟨_, heap_alloc_new w11 _, rfl, fun i v hv => ?_⟩, Lib.hid (below_step B11.out (hc _))⟩
            match i, hv with
            | 0, hv => obtain rfl := Option.some.inj hv; exact Ga.out.below (hc _)
            | 1, hv => obtain rfl := Option.some.inj hv; exact Gb.out.below (hc _)
            | 2, hv => obtain rfl := Option.some.inj hv; exact Gc.out.below (hc _)
            | 3, hv => obtain rfl := Option.some.inj hv; exact Gd.out.below (hc _)
            | 4, hv => obtain rfl := Option.some.inj hv; exact Gj.out.below (hc _)
            | 5, hv => obtain rfl := Option.some.inj hv; exact Gt.out.below (hc _)
            | i + 6, hv => simp at hv
          clear hc
          rintro W0 ⟨HLits, HBel⟩
          go_wp2_with fail
          go_loopg [77] 6 (fun gk v77 W => ∃ i : Nat, v77 = .int .i64 (i : Int) ∧ i ≤ 6 ∧ 6 - i ≤ gk ∧ Hid (LeafKeeps.Lits w6.heap.size w11.heap.size W) ∧ Hid (Below w6.heap.size w6 W))
          case atStart => exact ⟨0, rfl, by omega, by omega, HLits, HBel⟩
          case round =>
            clear HLits HBel
            obtain ⟨i, rfl, hi6, hgk, HLits, HBel⟩ := hrel
            by_cases hi : i < 6
            · obtain ⟨cur, hL1, hL2, hL3⟩ := HLits.out
              obtain ⟨v, hv⟩ : ∃ v, cur.toList[i]? = some v := ⟨_, List.getElem?_eq_getElem (by rw [Array.length_toList]; omega)⟩
              have hc0 : wr.cell? ⟨w11.heap.size, i, none⟩ = some v := (cells_cell hL1 i).trans hv
              have HGv := Lib.hid (hL3 i v hv)
              clear hL1 hL2 hL3 hv
              obtain ⟨A, n, c, rfl, hnb⟩ : ∃ A n c, v = .slice A n c ∧ n ≤ 9223372036854775807 := by
                obtain ⟨n, c, ⟨h1, h2⟩ | ⟨g, _, h1, _, h3, h4, _⟩⟩ := HGv.out
                · exact ⟨_, _, _, h1, by omega⟩
                · exact ⟨_, _, _, h1, by omega⟩
              have hid : decide ((i : Int) < 6) = true := decide_eq_true (by omega)
              have hiw : IntKind.i64.wrap ((i : Int) + 1) = (i : Int) + 1 := by rw [IntKind.wrap_i64]; omega
              go_wp2_with fail
              go_loopg [83] n (fun gk2 v83 W => ∃ t : Nat, v83 = .int .i64 (t : Int) ∧ t ≤ n ∧ n - t ≤ gk2 ∧ Hid (LeafKeeps.Lits w6.heap.size w11.heap.size W) ∧ Hid (Below w6.heap.size w6 W) ∧ Hid (LeafKeeps.Good w6.heap.size W (.slice A n c)))
              case atStart => exact ⟨0, rfl, by omega, by omega, HLits, HBel, HGv⟩
              case round =>
                clear HLits HBel HGv hc0
                obtain ⟨t, rfl, htn, hgk2, HLits, HBel, HGv⟩ := hrel
                by_cases ht : t < n
                · obtain ⟨n', c', ⟨h1, h2⟩ | ⟨gv, curv, h1, hB, h3, h4, hh, hs⟩⟩ := HGv.out
                  · injection h1 with e1 e2 e3
                    omega
                  · injection h1 with e1 e2 e3
                    subst e1 e2 e3
                    obtain ⟨u0, hu0⟩ : ∃ u, curv.toList[t * 2]? = some u := ⟨_, List.getElem?_eq_getElem (by rw [Array.length_toList]; omega)⟩
                    obtain ⟨u1, hu1⟩ : ∃ u, curv.toList[t * 2 + 1]? = some u := ⟨_, List.getElem?_eq_getElem (by rw [Array.length_toList]; omega)⟩
                    have hx0 : wr.cell? ⟨gv, t * 2, none⟩ = some u0 := (cells_cell hh _).trans hu0
                    have hx1 : ∀ u, (wr.setCell ⟨gv, t * 2, none⟩ u).cell? ⟨gv, t * 2 + 1, none⟩ = some u1 := fun u => (World.cell?_setCell_other _ _ _ _ (by simp)).trans ((cells_cell hh (t * 2 + 1)).trans hu1)
                    have hf0 : wr.frozen? ⟨gv, t * 2, none⟩ = false := cells_free hh _
                    have hf1 : wr.frozen? ⟨gv, t * 2 + 1, none⟩ = false := cells_free hh _
                    have hne := Lib.hid (HLits.out.ne hh)
                    have hBg := Lib.hid hB
                    have htd : decide ((t : Int) < (n : Int)) = true := decide_eq_true (by omega)
                    have htw : IntKind.i64.wrap ((t : Int) + 1) = (t : Int) + 1 := by rw [IntKind.wrap_i64]; omega
                    clear hu0 hu1 hh hs hB
                    go_wp2
                    go_roundg (n - (t + 1))
                    case measure => omega
                    case rel => exact ⟨t + 1, by simp, by omega, Nat.le_refl _, Lib.hid ((HLits.out.set hne.out _ _).set hne.out _ _), Lib.hid ((HBel.out.setCell hBg.out _).setCell hBg.out _), Lib.hid ((HGv.out.set _ _ _).set _ _ _)⟩
                · obtain rfl : t = n := by omega
                  go_wp2
                  go_roundg (6 - (i + 1))
                  case measure => omega
                  case rel => exact ⟨i + 1, by simp, by omega, Nat.le_refl _, HLits, HBel⟩
            · obtain rfl : i = 6 := by omega
              go_wp2
              go_meet
              case rel => exact HBel
        case rest =>
          have BX := hcut
          clear hcut Ga Gb Gc Gd Gj Gt B11 HP HQ HS HJ HBt
          have BW := Lib.hid (below_step B39.out BX.out)
          have k0 : (L ++ [(⟨7, 7⟩ : S40), (⟨8, 8⟩ : S40), (⟨9, 9⟩ : S40)])[L.length]? = some ⟨7, 7⟩ := by rw [List.getElem?_append_right (Nat.le_refl _), Nat.sub_self]; rfl
          have k1 : (L ++ [(⟨7, 7⟩ : S40), (⟨8, 8⟩ : S40), (⟨9, 9⟩ : S40)])[L.length + 1]? = some ⟨8, 8⟩ := by rw [List.getElem?_append_right (by omega), Nat.add_sub_cancel_left]; rfl
          have k2 : (L ++ [(⟨7, 7⟩ : S40), (⟨8, 8⟩ : S40), (⟨9, 9⟩ : S40)])[L.length + 2]? = some ⟨9, 9⟩ := by rw [List.getElem?_append_right (by omega), Nat.add_sub_cancel_left]; rfl
          obtain ⟨b0, o0, e0, _, c0'⟩ := at40 CR.out.2 BX.out L.length _ k0
          obtain ⟨b1', o1, e1, _, c1'⟩ := at40 CR.out.2 BX.out (L.length + 1) _ k1
          obtain ⟨b2', o2, e2, _, c2'⟩ := at40 CR.out.2 BX.out (L.length + 2) _ k2
          cases e0
          cases e1
          cases e2
          rw [Nat.zero_add] at c0' c1' c2'
          dsimp only at c0' c1' c2'
          clear k0 k1 k2
          have w1' : IntKind.i64.wrap ((L.length : Int) + 1) = (L.length : Int) + 1 := by rw [IntKind.wrap_i64]; omega
          have w2' : IntKind.i64.wrap ((L.length : Int) + 2) = (L.length : Int) + 2 := by rw [IntKind.wrap_i64]; omega
          have z1 : (0 : Int) ≤ (L.length : Int) + 1 := by omega
          have z2 : (0 : Int) ≤ (L.length : Int) + 2 := by omega
          have z3 : (L.length : Int) < (L.length : Int) + 3 := by omega
          have z4 : (L.length : Int) + 1 < (L.length : Int) + 3 := by omega
          have z5 : (L.length : Int) + 2 < (L.length : Int) + 3 := by omega
          have z6 : ((L.length : Int) + 1).toNat = L.length + 1 := by omega
          have z7 : ((L.length : Int) + 2).toNat = L.length + 2 := by omega
          cases r with
          | true =>
            go_wp2_with (go_at_call 48; refine (boscagelaw02_Same.calls k _ _ L _ _ L true _ ?_ hcr ?_ CW.out.1 HSm.out).mono ?_; (exact Kd.C_below CP.out BX.out); (exact Kd.C_below CW.out.2 BW.out); rintro e w13 ⟨rfl, ⟨nd, rfl⟩⟩)
            go_ret
            exact ⟨rfl, pw_below_drewN (below_step HB2.out BW.out) _⟩
          | false =>
            go_wp2_with (go_at_call 48; refine (boscagelaw02_Same.calls k _ _ L _ _ L false _ ?_ hcr ?_ CW.out.1 HSm.out).mono ?_; (exact Kd.C_below CP.out BX.out); (exact Kd.C_below CW.out.2 BW.out); rintro e w13 ⟨rfl, ⟨nd, rfl⟩⟩)
            go_ret
            exact ⟨rfl, pw_below_drewN (below_step HB2.out BW.out) _⟩
      · cases h
end Go.Proofs.Ytkoiffkonjpoiaa.Q
