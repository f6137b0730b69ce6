/- Go functions of the program as plain Lean functions, and for each the contract that the call comes to its answers; written by a turned print of this session. -/
import Derived.Test.YtkoiffkonjpoiaaQ0
namespace Go.Proofs.Ytkoiffkonjpoiaa.Q
open Go.RowKit Go.Proofs.YtkoiffkonjpoiaaW.PrintWords Go.Proofs.YtkoiffkonjpoiaaW.PrintLast Go.Proofs.YtkoiffkonjpoiaaW.PrintMore Go.Proofs.YtkoiffkonjpoiaaX
attribute [local go_sem] max2_int min2_int max_two min_two max_three min_three max_four min_four   -- for this text's walks alone
set_option linter.unusedVariables false
set_option linter.unusedSimpArgs false

/-! ### ref_Ref_113: function 113 (by hand) -/
theorem run_overlaps_y {P : Program} (w : World) (tS tR e : TypeId) (ht : P.underlying tS = some (.slice e)) (size : Nat) (hz : ∀ w, (Go.sizeOf e).run P w = .ok size w)
    (a b : Addr) (la ca lb cb : Nat) (hne : a.block ≠ b.block) (tA tB : TypeId) (kA kB : Nat)
    (hsa : w.shape? a.block = some (tA, kA)) (hsb : w.shape? b.block = some (tB, kB)) (hkB : kB ≠ 0) (hkA : kA ≠ 0)
    (hfa : ∀ k, w.frozen? { block := a.block, off := k } = false) (has : a.spot = none) :
    (Extern.SlicesOverlaps.overlaps #[tS, tS] #[tR] #[.slice (some a) la ca, .slice (some b) lb cb]).run P w = .ok (.bool false) w := by
  have hnb : (a.block != b.block) = true := by simpa using hne
  have hnb' : (a.block == b.block) = false := by simpa using hne
  have hfa0 : w.frozen? a = false := by
    obtain ⟨bb, bo, bs⟩ := a
    subst has
    exact hfa bo
  change Sem.run P (α := Value) (do
    let some t := (#[tS, tS] : Array TypeId)[0]? | stuck "slices.overlaps: no parameter types"
    let .slice elem ← underlying t | stuck "slices.overlaps: slice type expected"
    let size ← sizeOf elem
    match (some a : Option Addr), (some b : Option Addr) with
    | some a, some b =>
      if la = 0 ∨ lb = 0 ∨ size = 0 then pure (Value.bool false)
      else if a.block != b.block && (← frozen a) && (← frozen b) then unsupported .addressObserved
      else do
        if a.block != b.block then do
          noView a; noView b
          if ← mayBeOne a b then return Value.bool ((← choose (.extern "sameAddr.stringBytes" 2)) == 1)
        pure (Value.bool (a.block == b.block && a.off < b.off + lb * size && b.off < a.off + la * size))
    | _, _ => pure (Value.bool false)) w = _
  by_cases h0 : la = 0 ∨ lb = 0 ∨ size = 0
  · simp [run_underlying ht, hz, h0]
  · cases kB with
    | zero => exact absurd rfl hkB
    | succ kB =>
      cases kA with
      | zero => exact absurd rfl hkA
      | succ kA =>
      cases hfb : w.frozen? b <;> cases hfe : w.frozen? { block := b.block, off := kB + 1 } <;>
      simp [run_underlying ht, hz, h0, hnb, hnb', frozen, noView, viewAt, mayBeOne, stringish, shape, Sem.run, hsa, hsb, hfa, hfb, hfe, hfa0]
theorem run_clear_0 {P : Program} (w : World) (t e ty : TypeId) (ht : P.underlying t = some (.slice e)) (A : Option Addr) (c : Nat) (z : Value) (hv : ∀ w, (zeroValue e).run P w = .ok z w) : (Builtin.clear_ #[t] ty #[.slice A 0 c]).run P w = .ok (.tuple #[]) w := by
  cases A <;> simp [Builtin.clear_, run_underlying ht, hv, Builtin.zeroCells, storeCells]
set_option maxHeartbeats 4000000 in
set_option maxRecDepth 100000 in
theorem ref_Ref_113.fits (g n cap i j : Nat) (cur : Array Value) (w : World) (hg : w.heap[g]? = some (.cells cur 47 (0, 0))) (hsz : cur.size = cap) (hn : n ≤ cap) (hm : cap ≤ 9223372036854775807) (h1c : ∀ u ∈ cur.toList.take n, u.oneCell' = true)
    (vb vo m vc : Nat) (vs : List Value) (hvl : vs.length = m) (hvs : ∀ j u, vs[j]? = some u → w.cell? ⟨vb, vo + j, none⟩ = some u) (h1v : ∀ u ∈ vs, u.oneCell' = true) (hm0 : 0 < m) (hvb : vb ≠ g)
    (hj : j < n) (hfit : i + m ≤ j) :
    Calls Try.prog 113 #[.slice (some ⟨g, 0, none⟩) n cap, .int .i64 i, .int .i64 j, .slice (some ⟨vb, vo, none⟩) m vc] w fun e w' => e = .returned (.slice (some ⟨g, 0, none⟩) (i + m + (n - j)) cap) ∧
      (∃ cur', w'.heap[g]? = some (.cells cur' 47 (0, 0)) ∧ cur'.size = cap ∧ cur'.toList.take (i + m + (n - j)) = cur.toList.take i ++ vs ++ (cur.toList.take n).drop j) ∧ (∀ B, B ≤ g → ∀ w0, Below B w0 w → Below B w0 w') ∧ Kept w w' (fun k => k = g) := by
  obtain ⟨i0, hi0, _, hz1, _⟩ := info_parts info47
  obtain ⟨T, hT⟩ : ∃ T, T = i + m + (n - j) := ⟨_, rfl⟩
  obtain ⟨cs, hcs⟩ : ∃ cs, cs = (cur.toList.take n).drop j := ⟨_, rfl⟩
  have hcl : cs.length = n - j := by rw [hcs]; simp; omega
  have h1s : ∀ u ∈ cs, u.oneCell' = true := fun u hu => h1c u (List.mem_of_mem_drop (hcs ▸ hu))
  -- the first copy
  have hcpA : ∀ (W : World), (∀ x, W.cell? x = w.cell? x) → (∀ x, W.frozen? x = w.frozen? x) → ∀ ty dc, (Builtin.copy_ #[24, 24] ty #[.slice (some ⟨g, i, none⟩) (i + m + (n - j) - i) dc, .slice (some ⟨vb, vo, none⟩) m vc]).run Try.prog W = .ok (goInt (m : Nat)) (W.setCells g i vs) := fun W hWc hWf ty dc => by
    have hmin : Nat.min m (i + m + (n - j) - i) = m := by simp only [Nat.min_def]; split <;> omega
    have := run_copy_K (P := Try.prog) W 24 24 ty 47 i0 g i (i + m + (n - j) - i) dc ⟨vb, vo, none⟩ m vc vs Try.underlying24 hi0 (by rw [hmin, hvl, hz1] <;> omega)
      (fun j u hj => by rw [add_lit', hWc]; exact hvs j u hj)
      (fun j hj => by rw [hWc]; exact cells_some hg (by omega)) (fun j _ => by rw [hWf]; exact cells_free hg _) h1v
    rw [hmin] at this
    exact this
  obtain ⟨W1, hW1⟩ : ∃ W1, W1 = w.drew.setCells g i vs := ⟨_, rfl⟩
  obtain ⟨cur1, g1, g2, g3⟩ := setCells_heap_at g vs i w.drew cur 47 (0, 0) hg (by omega)
  rw [← hW1] at g1
  have hrest : ∀ k, j ≤ k → cur1.toList[k]? = cur.toList[k]? := fun k hk => by
    rw [g3, List.getElem?_append_right (by simp; omega), List.getElem?_drop]
    congr 1
    simp
    omega
  have hcpB : ∀ (W : World), (∀ x, W.cell? x = W1.cell? x) → (∀ x, W.frozen? x = W1.frozen? x) → ∀ ty dc sc, (Builtin.copy_ #[24, 24] ty #[.slice (some ⟨g, i + m, none⟩) (n - j) dc, .slice (some ⟨g, j, none⟩) (n - j) sc]).run Try.prog W = .ok (goInt (n - j : Nat)) (W.setCells g (i + m) cs) := fun W hWc hWf ty dc sc => by
    have hmin : Nat.min (n - j) (n - j) = n - j := Nat.min_self _
    have := run_copy_K (P := Try.prog) W 24 24 ty 47 i0 g (i + m) (n - j) dc ⟨g, j, none⟩ (n - j) sc cs Try.underlying24 hi0 (by rw [hmin, hcl, hz1] <;> omega)
      (fun t u ht => by
        rw [add_lit', hWc, cells_cell g1, hrest _ (by omega)]
        rw [hcs, List.getElem?_drop, List.getElem?_take] at ht
        split at ht
        · exact ht
        · cases ht)
      (fun t ht => by rw [hWc]; exact cells_some g1 (by rw [hcl] at ht; omega)) (fun t _ => by rw [hWf]; exact cells_free g1 _) h1s
    rw [hmin] at this
    exact this
  obtain ⟨W2, hW2⟩ : ∃ W2, W2 = W1.drew.setCells g (i + m) cs := ⟨_, rfl⟩
  obtain ⟨cur2, k1, k2, k3⟩ := setCells_heap_at g cs (i + m) W1.drew cur1 47 (0, 0) g1 (by omega)
  rw [← hW2] at k1
  have c1 : cur1.toList.take (i + m) = cur.toList.take i ++ vs := by
    rw [g3]
    exact List.take_left' (by simp; omega)
  have c2 : cur2.toList.take (i + m + (n - j)) = cur.toList.take i ++ vs ++ cs := by
    rw [k3, c1]
    exact List.take_left' (by simp; omega)
  have hb1 : ∀ B, B ≤ g → ∀ w0, Below B w0 w → Below B w0 W2 := fun B hB w0 h => by rw [hW2, hW1]; exact bel_setCells (below_drew1 (bel_setCells (below_drew1 h) hB _ _)) hB _ _
  have hk1 : Kept w W2 (fun k => k = g) := by rw [hW2, hW1]; exact kep_setCells (S := fun k => k = g) (Kept.drew (kep_setCells (S := fun k => k = g) (Kept.drew (Kept.refl w _)) rfl _ _)) rfl _ _
  -- what is cleared
  have hclr : ∃ W3, (∀ ty c, (Builtin.clear_ #[24] ty #[.slice (if cap = i + m + (n - j) then (some (⟨g, 0, none⟩ : Addr)) else some ⟨g, i + m + (n - j), none⟩) (n - (i + m + (n - j))) c]).run Try.prog W2 = .ok (.tuple #[]) W3) ∧ (∃ cur', W3.heap[g]? = some (.cells cur' 47 (0, 0)) ∧ cur'.size = cap ∧ cur'.toList.take (i + m + (n - j)) = cur.toList.take i ++ vs ++ cs) ∧ (∀ B, B ≤ g → ∀ w0, Below B w0 w → Below B w0 W3) ∧ Kept w W3 (fun k => k = g) := by
    by_cases h0 : n - (i + m + (n - j)) = 0
    · rw [h0]
      exact ⟨W2, fun ty c => run_clear_0 W2 24 47 ty Try.underlying24 _ c _ Try.zeroValue47, ⟨cur2, k1, by omega, c2⟩, hb1, hk1⟩
    · rw [if_neg (by omega)]
      obtain ⟨cur3, l1, l2, l3⟩ := setCells_heap_at g (Builtin.zeroCells (Value.int .i64 0).cells (n - (i + m + (n - j)))).toList (i + m + (n - j)) W2 cur2 47 (0, 0) k1 (by rw [zeroCells_len]; simp [Value.cells]; omega)
      refine ⟨_, fun ty c => run_clear_cells W2 24 47 ty (.int .i64 0) Try.underlying24 Try.zeroValue47 g _ _ c (by omega) (zeroCells_one _ _ (by simp [Value.cells, Value.oneCell'])) (fun t ht => cells_some k1 (by rw [zeroCells_len] at ht; simp [Value.cells] at ht; omega)) (fun t _ => cells_free k1 _), ⟨cur3, l1, by omega, ?_⟩, fun B hB w0 h => bel_setCells (hb1 B hB w0 h) hB _ _, kep_setCells hk1 rfl _ _⟩
      rw [l3, List.append_assoc, List.take_append_of_le_length (by simp; omega), List.take_take, Nat.min_self]
      exact c2
  obtain ⟨W3, hcl3, hfin⟩ := hclr
  rw [← hcs]
  have HF := Lib.hid hfin
  have HW2 := Lib.hid hW2
  have HC3 := Lib.hid hcl3
  have HA := Lib.hid hcpA
  have HB := Lib.hid hcpB
  have HW1 := Lib.hid hW1
  clear hW1 hW2 hfin hcl3 hb1 hk1 c1 c2 k1 k2 k3 g1 g2 g3 hrest hcpA hcpB h1s hcl hcs hvs h1v hvl hvb hg h1c hsz hz1
  have z1 : ¬ ((i : Int) = (j : Int)) := by omega
  have z2 : ¬ ((j : Int) = (n : Int)) := by omega
  have z3 : IntKind.i64.wrap ((i : Int) + (m : Int)) = (i : Int) + (m : Int) := by rw [IntKind.wrap_i64]; omega
  have z4 : IntKind.i64.wrap ((i : Int) + (m : Int) + ((n - j : Nat) : Int)) = (i : Int) + (m : Int) + ((n - j : Nat) : Int) := by rw [IntKind.wrap_i64]; omega
  have z5 : ¬ ((cap : Int) < (i : Int) + (m : Int) + ((n - j : Nat) : Int)) := by omega
  have z6 : (i : Int) + (m : Int) ≤ (j : Int) := by omega
  have z7 : i ≤ cap := by omega
  have z8 : j ≤ cap := by omega
  have z9 : i ≤ j := by omega
  have z10 : ¬ (cap = j) := by omega
  have z11 : ¬ (cap = i) := by omega
  have z12 : j ≤ n := by omega
  have z13 : ((i : Int) + (m : Int) + ((n - j : Nat) : Int)).toNat = i + m + (n - j) := by omega
  have z14 : (0 : Int) ≤ (i : Int) + (m : Int) + ((n - j : Nat) : Int) := by omega
  have z15 : (i : Int) + (m : Int) + ((n - j : Nat) : Int) ≤ (cap : Int) := by omega
  have z16 : ((i : Int) + (m : Int)).toNat = i + m := by omega
  have z17 : (0 : Int) ≤ (i : Int) + (m : Int) := by omega
  have z18 : (i : Int) ≤ (i : Int) + (m : Int) + ((n - j : Nat) : Int) := by omega
  have z19 : ¬ (cap = i + m) := by omega
  have z20 : (i : Int) + (m : Int) + ((n - j : Nat) : Int) ≤ (n : Int) := by omega
  have z21 : (i : Int) + (m : Int) ≤ (i : Int) + (m : Int) + ((n - j : Nat) : Int) := by omega
  go_enter Try.func113, Try.ntmps113
  go_wp2_with fail
  go_region_law fail
  have RA := HA.out w.drew (fun _ => rfl) (fun _ => rfl)
  go_wp2_with fail
  clear RA
  rw [← HW1.out]
  have HB' := HB.out W1.drew (fun _ => rfl) (fun _ => rfl)
  go_region_law (refine stepx_copy rfl (.tmp 103) (.tmp 106) 24 24 rfl (.slice (some ⟨g, i + m, none⟩) (n - j) (cap - (i + m))) (.slice (some ⟨g, j, none⟩) (n - j) (cap - j)) (by simp [Act.eval, Act.put]) (by simp [Act.eval, Act.put]) (HB' 3 (cap - (i + m)) (cap - j)) ?_)
  rw [← HW2.out]
  have HC := HC3.out
  go_wp2_with fail
  all_goals (go_ret; exact ⟨rfl, by have h := HF.out; (try rw [List.append_assoc] at h); first | exact h | (have hc : cap = i + m + (n - j) := (by assumption); rw [hc] at h; exact h)⟩)
set_option maxHeartbeats 4000000 in
set_option maxRecDepth 100000 in
theorem ref_Ref_113.spread (g n cap i j : Nat) (cur : Array Value) (w : World) (hg : w.heap[g]? = some (.cells cur 47 (0, 0))) (hsz : cur.size = cap) (hn : n ≤ cap) (hm : cap ≤ 9223372036854775807) (h1c : ∀ u ∈ cur.toList.take n, u.oneCell' = true)
    (vb vo m vc : Nat) (vs : List Value) (hvl : vs.length = m) (hvs : ∀ j u, vs[j]? = some u → w.cell? ⟨vb, vo + j, none⟩ = some u) (h1v : ∀ u ∈ vs, u.oneCell' = true) (hm0 : 0 < m) (hvb : vb ≠ g)
    (hij : i < j) (hj : j < n) (hfit : j < i + m) (hroom : i + m + (n - j) ≤ cap) :
    Calls Try.prog 113 #[.slice (some ⟨g, 0, none⟩) n cap, .int .i64 i, .int .i64 j, .slice (some ⟨vb, vo, none⟩) m vc] w fun e w' => e = .returned (.slice (some ⟨g, 0, none⟩) (i + m + (n - j)) cap) ∧
      (∃ cur', w'.heap[g]? = some (.cells cur' 47 (0, 0)) ∧ cur'.size = cap ∧ cur'.toList.take (i + m + (n - j)) = cur.toList.take i ++ vs ++ (cur.toList.take n).drop j) ∧ (∀ B, B ≤ g → ∀ w0, Below B w0 w → Below B w0 w') ∧ Kept w w' (fun k => k = g) := by
  obtain ⟨i0, hi0, _, hz1, _⟩ := info_parts info47
  obtain ⟨cs, hcs⟩ : ∃ cs, cs = (cur.toList.take n).drop j := ⟨_, rfl⟩
  have hcl : cs.length = n - j := by rw [hcs]; simp; omega
  have h1s : ∀ u ∈ cs, u.oneCell' = true := fun u hu => h1c u (List.mem_of_mem_drop (hcs ▸ hu))
  obtain ⟨u0, hu0⟩ : ∃ u, vs[0]? = some u := ⟨_, List.getElem?_eq_getElem (by omega)⟩
  have hc0 := hvs 0 u0 hu0
  obtain ⟨cA, tA, fA, hA, hA0⟩ : ∃ cA tA fA, w.heap[vb]? = some (.cells cA tA fA) ∧ cA.size ≠ 0 := by
    unfold World.cell? at hc0
    split at hc0
    · rename_i c t f h
      refine ⟨c, t, f, h, ?_⟩
      simp at hc0
      intro h0
      rw [Array.getElem?_eq_none (by omega)] at hc0
      cases hc0
    · cases hc0
  have hov : ∀ lb cb, (callFunc 128 #[.slice (some ⟨g, i + m, none⟩) lb cb, .slice (some ⟨vb, vo, none⟩) m vc]).run Try.prog w.drew = .ok (.value (.bool false)) w.drew := fun lb cb => by
    rw [run_callFunc_extern Try.func128 (by kernel_rfl) (by kernel_rfl) (by kernel_rfl) (e := Extern.SlicesOverlaps.overlaps #[24, 24] #[4]) (by kernel_rfl),
      run_overlaps_y w.drew 24 4 47 Try.underlying24 1 Try.sizeOf47 ⟨g, i + m, none⟩ ⟨vb, vo, none⟩ lb cb m vc (Ne.symm hvb) 47 tA cur.size cA.size (show w.shape? g = _ by simp [World.shape?, hg]) (show w.shape? vb = _ by simp [World.shape?, hA]) hA0 (by omega) (fun k => cells_free (w := w) hg k) rfl]
    rfl
  have hcpA : ∀ ty dc sc, (Builtin.copy_ #[24, 24] ty #[.slice (some ⟨g, i + m, none⟩) (n - j) dc, .slice (some ⟨g, j, none⟩) (n - j) sc]).run Try.prog w.drew.drew = .ok (goInt (n - j : Nat)) (w.drew.drew.setCells g (i + m) cs) := fun ty dc sc => by
    have hmin : Nat.min (n - j) (n - j) = n - j := Nat.min_self _
    have := run_copy_K (P := Try.prog) w.drew.drew 24 24 ty 47 i0 g (i + m) (n - j) dc ⟨g, j, none⟩ (n - j) sc cs Try.underlying24 hi0 (by rw [hmin, hcl, hz1] <;> omega)
      (fun t u ht => by
        rw [add_lit']
        show w.cell? _ = _
        rw [cells_cell hg]
        rw [hcs, List.getElem?_drop, List.getElem?_take] at ht
        split at ht
        · exact ht
        · cases ht)
      (fun t ht => cells_some (w := w) hg (by rw [hcl] at ht; omega)) (fun t _ => cells_free (w := w) hg _) h1s
    rw [hmin] at this
    exact this
  obtain ⟨W1, hW1⟩ : ∃ W1, W1 = w.drew.drew.setCells g (i + m) cs := ⟨_, rfl⟩
  obtain ⟨cur1, g1, g2, g3⟩ := setCells_heap_at g cs (i + m) w.drew.drew cur 47 (0, 0) hg (by omega)
  have gv : W1.heap[vb]? = w.heap[vb]? := by rw [hW1]; exact setCells_heap_ne g cs _ w.drew.drew vb hvb
  rw [← hW1] at g1 hcpA
  have hcpB : ∀ ty dc, (Builtin.copy_ #[24, 24] ty #[.slice (some ⟨g, i, none⟩) (i + m + (n - j) - i) dc, .slice (some ⟨vb, vo, none⟩) m vc]).run Try.prog W1 = .ok (goInt (m : Nat)) (W1.setCells g i vs) := fun ty dc => by
    have hmin : Nat.min m (i + m + (n - j) - i) = m := by simp only [Nat.min_def]; split <;> omega
    have := run_copy_K (P := Try.prog) W1 24 24 ty 47 i0 g i (i + m + (n - j) - i) dc ⟨vb, vo, none⟩ m vc vs Try.underlying24 hi0 (by rw [hmin, hvl, hz1] <;> omega)
      (fun j u hj => by
        rw [add_lit']
        have := hvs j u hj
        simp only [World.cell?] at this ⊢
        rw [gv]
        exact this)
      (fun j hj => cells_some g1 (by omega)) (fun j _ => cells_free g1 _) h1v
    rw [hmin] at this
    exact this
  obtain ⟨W2, hW2⟩ : ∃ W2, W2 = W1.setCells g i vs := ⟨_, rfl⟩
  obtain ⟨cur2, k1, k2, k3⟩ := setCells_heap_at g vs i W1 cur1 47 (0, 0) g1 (by omega)
  rw [← hW2] at k1 hcpB
  have hfin : (∃ cur', W2.heap[g]? = some (.cells cur' 47 (0, 0)) ∧ cur'.size = cap ∧ cur'.toList.take (i + m + (n - j)) = cur.toList.take i ++ vs ++ cs) ∧ (∀ B, B ≤ g → ∀ w0, Below B w0 w → Below B w0 W2) ∧ Kept w W2 (fun k => k = g) := by
    refine ⟨⟨cur2, k1, by omega, ?_⟩, fun B hB w0 h => by rw [hW2, hW1]; exact bel_setCells (bel_setCells (below_drew1 (below_drew1 h)) hB _ _) hB _ _, by rw [hW2, hW1]; exact kep_setCells (S := fun k => k = g) (kep_setCells (S := fun k => k = g) (Kept.drew (Kept.drew (Kept.refl w _))) rfl _ _) rfl _ _⟩
    have d1 : cur1.toList.take i = cur.toList.take i := by
      rw [g3, List.append_assoc, List.take_append_of_le_length (by simp; omega), List.take_take, Nat.min_eq_left (by omega)]
    have d2 : (cur1.toList.drop (i + vs.length)).take (n - j) = cs := by
      rw [g3, hvl, List.append_assoc, List.drop_left' (by simp; omega)]
      exact List.take_left' hcl
    rw [k3, d1, List.take_append, List.take_of_length_le (by simp; omega)]
    congr 1
    rw [← d2]
    congr 1
    simp
    omega
  rw [← hcs]
  have HF := Lib.hid hfin
  have HA := Lib.hid hcpA
  clear hfin hW1 hW2 k1 k2 k3 g1 g2 g3 gv h1s hcl hcs hvs h1v hvl hvb hg h1c hsz hz1 hA hA0 hu0 hc0
  have z1 : ¬ ((i : Int) = (j : Int)) := by omega
  have z2 : ¬ ((j : Int) = (n : Int)) := by omega
  have z3 : IntKind.i64.wrap ((i : Int) + (m : Int)) = (i : Int) + (m : Int) := by rw [IntKind.wrap_i64]; omega
  have z4 : IntKind.i64.wrap ((i : Int) + (m : Int) + ((n - j : Nat) : Int)) = (i : Int) + (m : Int) + ((n - j : Nat) : Int) := by rw [IntKind.wrap_i64]; omega
  have z7 : i ≤ cap := by omega
  have z8 : j ≤ cap := by omega
  have z9 : i ≤ j := by omega
  have z10 : ¬ (cap = j) := by omega
  have z11 : ¬ (cap = i) := by omega
  have z12 : j ≤ n := by omega
  have z13 : ((i : Int) + (m : Int) + ((n - j : Nat) : Int)).toNat = i + m + (n - j) := by omega
  have z14 : (0 : Int) ≤ (i : Int) + (m : Int) + ((n - j : Nat) : Int) := by omega
  have z16 : ((i : Int) + (m : Int)).toNat = i + m := by omega
  have z17 : (0 : Int) ≤ (i : Int) + (m : Int) := by omega
  have z18 : (i : Int) ≤ (i : Int) + (m : Int) + ((n - j : Nat) : Int) := by omega
  have z21 : (i : Int) + (m : Int) ≤ (i : Int) + (m : Int) + ((n - j : Nat) : Int) := by omega
  have z5 : ¬ ((cap : Int) < (i : Int) + (m : Int) + ((n - j : Nat) : Int)) := by omega
  have z6 : ¬ ((i : Int) + (m : Int) ≤ (j : Int)) := by omega
  have z15 : (i : Int) + (m : Int) + ((n - j : Nat) : Int) ≤ (cap : Int) := by omega
  have z19 : ¬ (cap = i + m) := by omega
  go_enter Try.func113, Try.ntmps113
  go_wp2_with fail
  go_region_law fail
  go_wp2_with (simp only [hov])
  have HA' := HA.out
  go_region_law (refine stepx_copy rfl (.tmp 126) (.tmp 129) 24 24 rfl (.slice (some ⟨g, i + m, none⟩) (n - j) (cap - (i + m))) (.slice (some ⟨g, j, none⟩) (n - j) (cap - j)) (by simp [Act.eval, Act.put]) (by simp [Act.eval, Act.put]) (HA' 3 (cap - (i + m)) (cap - j)) ?_)
  go_wp2_with fail
  go_ret
  exact ⟨rfl, HF.out⟩
set_option maxHeartbeats 4000000 in
set_option maxRecDepth 100000 in
theorem ref_Ref_113.grow (g n cap i j : Nat) (cur : Array Value) (w : World) (hg : w.heap[g]? = some (.cells cur 47 (0, 0))) (hsz : cur.size = cap) (hn : n ≤ cap) (hm : cap ≤ 9223372036854775807) (h1c : ∀ u ∈ cur.toList.take n, u.oneCell' = true)
    (vb vo m vc : Nat) (vs : List Value) (hvl : vs.length = m) (hvs : ∀ j u, vs[j]? = some u → w.cell? ⟨vb, vo + j, none⟩ = some u) (h1v : ∀ u ∈ vs, u.oneCell' = true) (hm0 : 0 < m)
    (hij : i < j) (hj : j < n) (hroom : cap < i + m + (n - j)) (hbig : (n + m) * 8 ≤ 140737488355328) :
    Calls Try.prog 113 #[.slice (some ⟨g, 0, none⟩) n cap, .int .i64 i, .int .i64 j, .slice (some ⟨vb, vo, none⟩) m vc] w fun e w' => ∃ (G : Nat), e = .returned (.slice (some ⟨w.heap.size, 0, none⟩) (i + m + (n - j)) G) ∧ i + m + (n - j) ≤ G ∧ G ≤ maxLen ∧
      (∃ cur', w'.heap[w.heap.size]? = some (.cells cur' 47 (0, 0)) ∧ cur'.size = G ∧ cur'.toList.take (i + m + (n - j)) = cur.toList.take i ++ vs ++ (cur.toList.take n).drop j) ∧ (∀ B, B ≤ w.heap.size → ∀ w0, Below B w0 w → Below B w0 w') ∧ Kept w w' (fun _ => False) := by
  obtain ⟨i0, hi0, hz0, hz1, hzb⟩ := info_parts info47
  have hgw : g < w.heap.size := (Array.getElem?_eq_some_iff.1 hg).1
  have hvw : vb < w.heap.size := World.block_lt_of_cell? w _ (hvs 0 _ (List.getElem?_eq_getElem (by omega)))
  obtain ⟨cs, hcs⟩ : ∃ cs, cs = (cur.toList.take n).drop j := ⟨_, rfl⟩
  have hcl : cs.length = n - j := by rw [hcs]; simp; omega
  have h1s : ∀ u ∈ cs, u.oneCell' = true := fun u hu => h1c u (List.mem_of_mem_drop (hcs ▸ hu))
  have hkk : (i : Int) + (m : Int) + ((n - j : Nat) : Int) - (i : Int) = ((m + (n - j) : Nat) : Int) := by omega
  have hik : i + (m + (n - j)) = i + m + (n - j) := by omega
  have hold : (Builtin.firstCells i0.size i (.slice (some ⟨g, 0, none⟩) i cap)).run Try.prog w.drew.drew = .ok (cur.toList.take i).toArray w.drew.drew := by
    rw [hz1]
    exact run_firstCells_some w.drew.drew 1 i ⟨g, 0, none⟩ i cap (cur.toList.take i) (by rw [List.length_take]; simp; omega) (fun j v hj => by
      rw [add_lit', Nat.zero_add]
      show w.cell? _ = _
      rw [cells_cell hg]
      rw [List.getElem?_take] at hj
      split at hj
      · exact hj
      · cases hj)
  have hG63 : grownCap w.drew (i + m + (n - j)) cap 47 ≤ maxLen := grownCap_le_maxLen w.drew (i + m + (n - j)) cap 47 (by unfold maxLen; omega)
  have hrz : ∀ ty, (Builtin.append_ #[24, 3] ty #[.slice (some ⟨g, 0, none⟩) i cap, .int .i64 ((i : Int) + (m : Int) + ((n - j : Nat) : Int) - (i : Int))]).run Try.prog w.drew =
      .ok (.slice (some ⟨w.heap.size, 0, none⟩) (i + m + (n - j)) (grownCap w.drew (i + m + (n - j)) cap 47)) (w.drew.drew.alloc (.cells ((cur.toList.take i).toArray ++ Builtin.zeroCells (Value.int .i64 0).cells (m + (n - j)) ++ Builtin.zeroCells (Value.int .i64 0).cells (grownCap w.drew (i + m + (n - j)) cap 47 - (i + m + (n - j)))) 47)) := fun ty => by
    have h := Lib.run_append_grow_zeros w.drew 24 3 ty 47 i0 _ .i64 .i64 Try.underlying24 Try.underlying3 hi0 hz0 (some ⟨g, 0, none⟩) i cap (cur.toList.take i) hold (m + (n - j)) (by omega) (by omega) (by omega) (by omega) (by rw [hzb]; omega) (by rw [hzb, hik]; exact growslice_fits hroom (by omega))
    rw [hik] at h
    rw [hkk]
    exact h
  have hGn : i + m + (n - j) ≤ grownCap w.drew (i + m + (n - j)) cap 47 := grownCap_ge w.drew _ _ _
  generalize grownCap w.drew (i + m + (n - j)) cap 47 = G at hrz hG63 hGn
  have hG63' : G ≤ 9223372036854775807 := by unfold maxLen at hG63; omega
  obtain ⟨ROW, hROW⟩ : ∃ ROW : Array Value, ROW = (cur.toList.take i).toArray ++ Builtin.zeroCells (Value.int .i64 0).cells (m + (n - j)) ++ Builtin.zeroCells (Value.int .i64 0).cells (G - (i + m + (n - j))) := ⟨_, rfl⟩
  rw [← hROW] at hrz
  have hRs : ROW.size = G := by
    rw [hROW]
    simp [Builtin.zeroCells, Value.cells]
    omega
  have hRt : ROW.toList.take i = cur.toList.take i := by
    rw [hROW]
    simp only [Array.toList_append, List.append_assoc]
    exact List.take_left' (by rw [List.length_take]; simp; omega)
  obtain ⟨W1, hW1⟩ : ∃ W1, W1 = w.drew.drew.alloc (.cells ROW 47) := ⟨_, rfl⟩
  rw [← hW1] at hrz
  have e1 : W1.heap[w.heap.size]? = some (.cells ROW 47 (0, 0)) := by rw [hW1]; exact heap_alloc_new w.drew.drew _
  have hOb : ∀ j v, w.cell? ⟨g, j, none⟩ = some v → W1.cell? ⟨g, j, none⟩ = some v := fun j v h => by rw [hW1, World.cell?_alloc_past (w := w.drew.drew) _ g j hgw]; exact h
  have hOv : ∀ j v, w.cell? ⟨vb, j, none⟩ = some v → W1.cell? ⟨vb, j, none⟩ = some v := fun j v h => by rw [hW1, World.cell?_alloc_past (w := w.drew.drew) _ vb j hvw]; exact h
  have hcpA : ∀ ty dc, (Builtin.copy_ #[24, 24] ty #[.slice (some ⟨w.heap.size, i, none⟩) (i + m + (n - j) - i) dc, .slice (some ⟨vb, vo, none⟩) m vc]).run Try.prog W1 = .ok (goInt (m : Nat)) (W1.setCells w.heap.size i vs) := fun ty dc => by
    have hmin : Nat.min m (i + m + (n - j) - i) = m := by simp only [Nat.min_def]; split <;> omega
    have := run_copy_K (P := Try.prog) W1 24 24 ty 47 i0 w.heap.size i (i + m + (n - j) - i) dc ⟨vb, vo, none⟩ m vc vs Try.underlying24 hi0 (by rw [hmin, hvl, hz1] <;> omega)
      (fun j v hj => by rw [add_lit']; exact hOv _ v (hvs j v hj))
      (fun j hj => cells_some e1 (by omega)) (fun j hj => cells_free e1 _) h1v
    rw [hmin] at this
    exact this
  obtain ⟨W2, hW2⟩ : ∃ W2, W2 = W1.setCells w.heap.size i vs := ⟨_, rfl⟩
  obtain ⟨cur1, g1, g2, g3⟩ := setCells_heap_at w.heap.size vs i W1 ROW 47 (0, 0) e1 (by omega)
  rw [← hW2] at g1 hcpA
  have hout : ∀ k, W2.cell? ⟨g, k, none⟩ = W1.cell? ⟨g, k, none⟩ := fun k => by rw [hW2]; exact World.cell?_setCells_out _ _ _ _ _ (fun h _ => absurd h (show g ≠ w.heap.size by omega))
  have hcpB : ∀ ty dc sc, (Builtin.copy_ #[24, 24] ty #[.slice (some ⟨w.heap.size, i + m, none⟩) (n - j) dc, .slice (some ⟨g, j, none⟩) (n - j) sc]).run Try.prog W2.drew = .ok (goInt (n - j : Nat)) (W2.drew.setCells w.heap.size (i + m) cs) := fun ty dc sc => by
    have hmin : Nat.min (n - j) (n - j) = n - j := Nat.min_self _
    have := run_copy_K (P := Try.prog) W2.drew 24 24 ty 47 i0 w.heap.size (i + m) (n - j) dc ⟨g, j, none⟩ (n - j) sc cs Try.underlying24 hi0 (by rw [hmin, hcl, hz1] <;> omega)
      (fun t v ht => by
        rw [add_lit']
        show W2.cell? _ = _
        rw [hout]
        refine hOb _ v ?_
        rw [cells_cell hg]
        rw [hcs, List.getElem?_drop, List.getElem?_take] at ht
        split at ht
        · exact ht
        · cases ht)
      (fun t ht => cells_some (w := W2) g1 (by rw [hcl] at ht; omega)) (fun t _ => cells_free (w := W2) g1 _) h1s
    rw [hmin] at this
    exact this
  obtain ⟨W3, hW3⟩ : ∃ W3, W3 = W2.drew.setCells w.heap.size (i + m) cs := ⟨_, rfl⟩
  obtain ⟨cur2, k1, k2, k3⟩ := setCells_heap_at w.heap.size cs (i + m) W2.drew cur1 47 (0, 0) g1 (by omega)
  rw [← hW3] at k1 hcpB
  have hfin : i + m + (n - j) ≤ G ∧ G ≤ maxLen ∧ (∃ cur', W3.heap[w.heap.size]? = some (.cells cur' 47 (0, 0)) ∧ cur'.size = G ∧ cur'.toList.take (i + m + (n - j)) = cur.toList.take i ++ vs ++ cs) ∧ (∀ B, B ≤ w.heap.size → ∀ w0, Below B w0 w → Below B w0 W3) ∧ Kept w W3 (fun _ => False) := by
    refine ⟨hGn, hG63, ⟨cur2, k1, by omega, ?_⟩, fun B hB w0 h => ?_, ?_⟩
    · have c1 : cur1.toList.take (i + m) = cur.toList.take i ++ vs := by
        rw [g3, hRt]
        exact List.take_left' (by simp; omega)
      rw [k3, c1]
      exact List.take_left' (by simp; omega)
    · rw [hW3, hW2, hW1]
      have h1 : Below B w0 (w.drew.drew.alloc (.cells ROW 47)) := Below.alloc (below_drew1 (below_drew1 h)) hB _
      exact bel_setCells (below_drew1 (bel_setCells h1 hB _ _)) hB _ _
    · have h1 : Kept w W1 (fun k => k = w.heap.size) := by rw [hW1]; exact Kept.alloc (Kept.drew (Kept.drew (Kept.refl w _))) _
      have h2 : Kept w W3 (fun k => k = w.heap.size) := by rw [hW3, hW2]; exact kep_setCells (S := fun k => k = w.heap.size) (Kept.drew (kep_setCells (S := fun k => k = w.heap.size) h1 rfl _ _)) rfl _ _
      exact ⟨h2.1, fun k hk _ => h2.2 k hk (by omega)⟩
  rw [← hcs]
  obtain ⟨Fin, hFin⟩ : ∃ Fin : Ending → World → Prop, Fin = fun e w' => ∃ (G : Nat), e = .returned (.slice (some ⟨w.heap.size, 0, none⟩) (i + m + (n - j)) G) ∧ i + m + (n - j) ≤ G ∧ G ≤ maxLen ∧ (∃ cur', w'.heap[w.heap.size]? = some (.cells cur' 47 (0, 0)) ∧ cur'.size = G ∧ cur'.toList.take (i + m + (n - j)) = cur.toList.take i ++ vs ++ cs) ∧ (∀ B, B ≤ w.heap.size → ∀ w0, Below B w0 w → Below B w0 w') ∧ Kept w w' (fun _ => False) := ⟨_, rfl⟩
  have HF : Hid (Fin (.returned (.slice (some ⟨w.heap.size, 0, none⟩) (i + m + (n - j)) G)) W3) := Lib.hid (by rw [hFin]; exact ⟨G, rfl, hfin⟩)
  rw [← hFin]
  have HZ := Lib.hid hrz
  have HA := Lib.hid hcpA
  have HB := Lib.hid hcpB
  have HW1 := Lib.hid hW1
  clear hfin hFin hW1 hW2 hW3 k1 k2 k3 g1 g2 g3 h1s hcl hcs hvs h1v hvl hg h1c hsz hz1 hrz hcpA hcpB hout hOb hOv e1 hRs hRt hROW hold hik hkk hG63
  have z1 : ¬ ((i : Int) = (j : Int)) := by omega
  have z2 : ¬ ((j : Int) = (n : Int)) := by omega
  have z3 : IntKind.i64.wrap ((i : Int) + (m : Int)) = (i : Int) + (m : Int) := by rw [IntKind.wrap_i64]; omega
  have z4 : IntKind.i64.wrap ((i : Int) + (m : Int) + ((n - j : Nat) : Int)) = (i : Int) + (m : Int) + ((n - j : Nat) : Int) := by rw [IntKind.wrap_i64]; omega
  have z7 : i ≤ cap := by omega
  have z8 : j ≤ cap := by omega
  have z9 : i ≤ j := by omega
  have z10 : ¬ (cap = j) := by omega
  have z11 : ¬ (cap = i) := by omega
  have z12 : j ≤ n := by omega
  have z13 : ((i : Int) + (m : Int) + ((n - j : Nat) : Int)).toNat = i + m + (n - j) := by omega
  have z14 : (0 : Int) ≤ (i : Int) + (m : Int) + ((n - j : Nat) : Int) := by omega
  have z16 : ((i : Int) + (m : Int)).toNat = i + m := by omega
  have z17 : (0 : Int) ≤ (i : Int) + (m : Int) := by omega
  have z18 : (i : Int) ≤ (i : Int) + (m : Int) + ((n - j : Nat) : Int) := by omega
  have z21 : (i : Int) + (m : Int) ≤ (i : Int) + (m : Int) + ((n - j : Nat) : Int) := by omega
  have z5 : (cap : Int) < (i : Int) + (m : Int) + ((n - j : Nat) : Int) := by omega
  have z22 : IntKind.i64.wrap ((i : Int) + (m : Int) + ((n - j : Nat) : Int) - (i : Int)) = (i : Int) + (m : Int) + ((n - j : Nat) : Int) - (i : Int) := by rw [IntKind.wrap_i64]; omega
  have z23 : ¬ (G = i) := by omega
  have z24 : ¬ (G = i + m) := by omega
  go_enter Try.func113, Try.ntmps113
  go_wp2_with fail
  go_region_law fail
  have HA' := HA.out
  go_wp2_with (at_builtin; refine Lib.wpList_append_run _ rfl _ _ _ _ rfl _ _ rfl rfl _ _ (HZ.out _) ?_)
  clear HA'
  have HB' := HB.out
  go_region_law (refine stepx_copy rfl (.tmp 78) (.tmp 81) 24 24 rfl (.slice (some ⟨w.heap.size, i + m, none⟩) (n - j) (G - (i + m))) (.slice (some ⟨g, j, none⟩) (n - j) (cap - j)) (by simp [Act.eval, Act.put]) (by simp [Act.eval, Act.put]) (HB' 3 (G - (i + m)) (cap - j)) ?_)
  go_wp2_with fail
  exact HF.out
set_option maxHeartbeats 4000000 in
set_option maxRecDepth 100000 in
theorem ref_Ref_113.end1 (g n cap i : Nat) (A A' : Option Addr) (m vc c' : Nat) (w w1 : World) (hn : n ≤ cap) (hm : cap ≤ 9223372036854775807) (hi : i < n) (hfit : n ≤ i + m)
    (hr : (Builtin.append_ #[24, 24] 24 #[.slice (some ⟨g, 0, none⟩) i cap, .slice A m vc]).run Try.prog w = .ok (.slice A' (i + m) c') w1) :
    Calls Try.prog 113 #[.slice (some ⟨g, 0, none⟩) n cap, .int .i64 i, .int .i64 n, .slice A m vc] w fun e w' => e = .returned (.slice A' (i + m) c') ∧ w' = w1 := by
  have z1 : ¬ ((i : Int) = (n : Int)) := by omega
  have z7 : i ≤ cap := by omega
  have z9 : i ≤ n := by omega
  have z11 : ¬ (cap = i) := by omega
  have z5 : ¬ ((i : Int) + (m : Int) < (n : Int)) := by omega
  have HR := Lib.hid hr
  clear hr
  go_enter Try.func113, Try.ntmps113
  go_wp2_with (at_builtin; refine Lib.wpList_append_run _ rfl _ _ _ _ rfl _ _ rfl rfl _ _ HR.out ?_)
  go_ret
  exact ⟨rfl, rfl⟩
set_option maxHeartbeats 4000000 in
set_option maxRecDepth 100000 in
theorem ref_Ref_113.end2 (g n cap i : Nat) (A : Option Addr) (m vc : Nat) (w w1 w2 : World) (hn : n ≤ cap) (hm : cap ≤ 9223372036854775807) (hi : i < n) (hfit : i + m < n)
    (hr : (Builtin.append_ #[24, 24] 24 #[.slice (some ⟨g, 0, none⟩) i cap, .slice A m vc]).run Try.prog w = .ok (.slice (some ⟨g, 0, none⟩) (i + m) cap) w1)
    (hc : ∀ ty c, (Builtin.clear_ #[24] ty #[.slice (some ⟨g, i + m, none⟩) (n - (i + m)) c]).run Try.prog w1 = .ok (.tuple #[]) w2) :
    Calls Try.prog 113 #[.slice (some ⟨g, 0, none⟩) n cap, .int .i64 i, .int .i64 n, .slice A m vc] w fun e w' => e = .returned (.slice (some ⟨g, 0, none⟩) (i + m) cap) ∧ w' = w2 := by
  have z1 : ¬ ((i : Int) = (n : Int)) := by omega
  have z7 : i ≤ cap := by omega
  have z9 : i ≤ n := by omega
  have z11 : ¬ (cap = i) := by omega
  have z5 : (i : Int) + (m : Int) < (n : Int) := by omega
  have z6 : ((i : Int) + (m : Int)).toNat = i + m := by omega
  have z8 : (0 : Int) ≤ (i : Int) + (m : Int) := by omega
  have z10 : (i : Int) + (m : Int) ≤ (n : Int) := by omega
  have z12 : ¬ (cap = i + m) := by omega
  have HR := Lib.hid hr
  clear hr
  go_enter Try.func113, Try.ntmps113
  go_wp2_with (at_builtin; refine Lib.wpList_append_run _ rfl _ _ _ _ rfl _ _ rfl rfl _ _ HR.out ?_)
  go_ret
  exact ⟨rfl, rfl⟩
/-- Instead of the elements from a1 on up to a2 (one at least) some others (one at least). -/
def ref_Ref_113.f (l0 : List Int) (a1 a2 : Int) (l3 : List Int) : Option (List Int) := if 0 ≤ a1 ∧ a1 < a2 ∧ a2 ≤ (l0.length : Int) ∧ 0 < l3.length ∧ l0.length + l3.length < 17592186044416 then some (l0.take a1.toNat ++ l3 ++ l0.drop a2.toNat) else none
set_option maxHeartbeats 1000000 in
theorem ref_Ref_113.calls (P0_ : Nat → Prop) (u9000_ : Value) (l0 : List Int) (a1 : Int) (a2 : Int) (A3 : Option Addr) (c3 : Nat) (l3 : List Int) (r : List Int) (w0 w : World) (hB : Below w0.heap.size w0 w) (ho0 : Kd.R (Kd.int .i64) 47 w w0.heap.size P0_ u9000_ l0) (hr3 : ∀ W_, Kept w W_ (fun k_ => P0_ k_) → Kd.C (Kd.int .i64) W_ A3 l3.length l3) (hc3 : l3.length ≤ c3) (h : ref_Ref_113.f l0 a1 a2 l3 = some r) :
    Calls Try.prog 113 #[u9000_, .int .i64 a1, .int .i64 a2, .slice A3 l3.length c3] w fun e w' => ∃ v0_ : Value, e = .returned v0_ ∧ Kd.R (Kd.int .i64) 47 w' w0.heap.size (fun k_ => (P0_ k_ ∨ w.heap.size ≤ k_)) v0_ r ∧ Below w0.heap.size w0 w' ∧ Kept w w' (fun k_ => P0_ k_) := by
  unfold ref_Ref_113.f at h
  split at h
  · rename_i hc
    obtain ⟨h0, h1, h2, hm0, hL⟩ := hc
    obtain rfl := Option.some.inj h
    clear h
    obtain ⟨i, rfl⟩ := Int.eq_ofNat_of_zero_le h0
    obtain ⟨j, rfl⟩ := Int.eq_ofNat_of_zero_le (show 0 ≤ a2 by omega)
    rw [Int.toNat_natCast, Int.toNat_natCast]
    have hij : i < j := by omega
    have hjn : j ≤ l0.length := by omega
    clear h0 h1 h2
    have F := flat_int .i64
    have et : ∀ (l : List Int) (k : Nat), (l.flatMap fun x => [Value.int .i64 x]).take k = (l.take k).flatMap fun x => [Value.int .i64 x] := fun l k => by have := flatMap_take F l k; rwa [show (Kd.int .i64).sz = 1 from rfl, Nat.mul_one] at this
    have ed : ∀ (l : List Int) (k : Nat), (l.flatMap fun x => [Value.int .i64 x]).drop k = (l.drop k).flatMap fun x => [Value.int .i64 x] := fun l k => by have := flatMap_drop F l k; rwa [show (Kd.int .i64).sz = 1 from rfl, Nat.mul_one] at this
    have el : ∀ (l : List Int), (l.flatMap fun x => [Value.int .i64 x]).length = l.length := fun l => by have := flatMap_length F l; rwa [show (Kd.int .i64).sz = 1 from rfl, Nat.mul_one] at this
    obtain ⟨hok, hown⟩ := (R_iff F).1 ho0
    rcases hown.2 with ⟨_, h0⟩ | ⟨g, cap, cur, rfl, hb, hg, hn, hm, hs, ht⟩
    · omega
    have hP : P0_ g := hok g rfl
    have hm' : cap ≤ 9223372036854775807 := by simpa [maxLen] using hm
    have hs' : cur.size = cap := by rw [hs]; exact Nat.mul_one _
    have ht' : cur.toList.take l0.length = l0.flatMap fun x => [Value.int .i64 x] := by rw [← ht]; congr 1; exact (Nat.mul_one _).symm
    have hones : ∀ u ∈ cur.toList.take l0.length, u.oneCell' = true := by rw [ht']; exact Flat.ones F l0
    obtain ⟨vs, hvs0⟩ : ∃ vs, vs = l3.flatMap fun x => [Value.int .i64 x] := ⟨_, rfl⟩
    have hvl : vs.length = l3.length := by rw [hvs0, el]
    have h1v : ∀ u ∈ vs, u.oneCell' = true := by rw [hvs0]; exact Flat.ones F l3
    have hne : l3 ≠ [] := List.length_pos_iff.1 hm0
    obtain ⟨vb, vo, rfl, hvs⟩ : ∃ b o, A3 = some ⟨b, o, none⟩ ∧ ∀ j u, vs[j]? = some u → w.cell? ⟨b, o + j, none⟩ = some u := by
      rcases C_at F (hr3 w (Kept.refl _ _)) with h0 | h0
      · rw [← hvs0] at h0; rw [h0] at hvl; simp at hvl; omega
      · rw [← hvs0] at h0; exact h0
    have hvb : vb ≠ g := apart_of_kept F hP hne hr3
    have hcur : cur.toList.take i = (l0.take i).flatMap fun x => [Value.int .i64 x] := by rw [← et, ← ht', List.take_take, Nat.min_eq_left (by omega)]
    have hlr : (l0.take i ++ l3 ++ l0.drop j).length = i + l3.length + (l0.length - j) := by simp; omega
    have hval : cur.toList.take i ++ vs ++ (cur.toList.take l0.length).drop j = (l0.take i ++ l3 ++ l0.drop j).flatMap fun x => [Value.int .i64 x] := by rw [ht', ed, hcur, hvs0, List.flatMap_append, List.flatMap_append]
    have close : ∀ (v0 : Value) (w' : World) (cur' : Array Value), v0 = .slice (some ⟨g, 0, none⟩) (i + l3.length + (l0.length - j)) cap → i + l3.length + (l0.length - j) ≤ cap → w'.heap[g]? = some (.cells cur' 47 (0, 0)) → cur'.size = cap → cur'.toList.take (i + l3.length + (l0.length - j)) = cur.toList.take i ++ vs ++ (cur.toList.take l0.length).drop j → Kd.R (Kd.int .i64) 47 w' w0.heap.size (fun k_ => (P0_ k_ ∨ w.heap.size ≤ k_)) v0 (l0.take i ++ l3 ++ l0.drop j) := by
      rintro v0 w' cur' rfl hroom k1 k2 k3
      refine (R_iff F).2 ⟨fun k hk => ?_, by rw [flatMap_length F], .inr ⟨g, cap, cur', by rw [hlr], hb, k1, by rw [hlr]; omega, hm, by rw [k2]; exact (Nat.mul_one _).symm, ?_⟩⟩
      · have : g = k := by simpa [Value.ownBlock] using hk
        subst this
        exact .inl hP
      · rw [hlr, ← hval, ← k3]
        congr 1
        exact Nat.mul_one _
    by_cases hje : j = l0.length
    · subst hje
      have hd0 : l0.drop l0.length = [] := List.drop_length
      obtain ⟨i0, hi0, hz0, hz1, hzb⟩ := info_parts info47
      by_cases hfit : l0.length ≤ i + l3.length
      · have hownI : w.ownsRow w0.heap.size 47 1 (.slice (some ⟨g, 0, none⟩) i cap) i ((l0.take i).flatMap fun x => [Value.int .i64 x]) :=
          ⟨by rw [el]; simp; omega, .inr ⟨g, cap, cur, rfl, hb, hg, by omega, hm, hs, by rw [Nat.mul_one]; exact hcur⟩⟩
        obtain ⟨v', w1, hr, ho1, hg1, hb1⟩ := run_append_own_x w 24 24 24 47 i0 _ 1 8 Try.underlying24 Try.underlying24 hi0 hz0 hz1 hzb rfl (by decide) (by decide) w0.heap.size (.slice (some ⟨g, 0, none⟩) i cap) i _ hownI ⟨vb, vo, none⟩ l3.length c3 vs (by rw [hvl]; omega) (fun j u hj => by rw [add_lit']; exact hvs j u hj) h1v (by omega) hB.size
        have hR : Kd.R (Kd.int .i64) 47 w1 w0.heap.size (fun k_ => (P0_ k_ ∨ w.heap.size ≤ k_)) v' (l0.take i ++ l3 ++ l0.drop l0.length) := by
          rw [hd0, List.append_nil]
          refine (R_iff F).2 ⟨fun k hk => ?_, ?_⟩
          · rcases hb1 with hb1 | ⟨b, hb1, hb2⟩
            · have : g = k := by rw [hb1] at hk; simpa [Value.ownBlock] using hk
              exact .inl (this ▸ hP)
            · rw [hb1] at hk
              obtain rfl := Option.some.inj hk
              exact .inr hb2
          · rw [List.flatMap_append, ← hvs0, show (l0.take i ++ l3).length = i + l3.length by simp; omega]
            exact ho1
        obtain ⟨A', c', rfl⟩ : ∃ A' c', v' = .slice A' (i + l3.length) c' := by
          rcases ho1.2 with ⟨_, h0⟩ | ⟨g', cap', _, h0, _⟩
          · omega
          · exact ⟨_, _, h0⟩
        refine (ref_Ref_113.end1 g l0.length cap i (some ⟨vb, vo, none⟩) A' l3.length c3 c' w w1 hn hm' hij hfit hr).mono ?_
        rintro e w' ⟨rfl, rfl⟩
        exact ⟨_, rfl, hR, hB.grown hg1 hB.size (own_base hownI), Kept.of_grown hg1 (Kept.refl _ _) (fun k hk => .inl (by have hgk : g = k := (by simpa [Value.ownBlock] using hk); exact hgk ▸ hP))⟩
      · have hr := run_append_room_src (P := Try.prog) (w := w) 24 24 24 47 i0 Try.underlying24 hi0 g 0 i cap (.slice (some ⟨vb, vo, none⟩) l3.length c3) l3.length vs (by rw [hz1]; exact Src.ofSlice w Try.underlying24 ⟨vb, vo, none⟩ l3.length c3 vs (by rw [hvl]; omega) (fun j u hj => by rw [add_lit']; exact hvs j u hj) h1v) (by omega) (fun k hk => cells_some hg (by rw [hz1]; omega)) (fun k _ => cells_free hg _)
        rw [hz1, Nat.mul_one, Nat.zero_add] at hr
        obtain ⟨cur1, g1, g2, g3⟩ := setCells_heap_at g vs i w cur 47 (0, 0) hg (by omega)
        obtain ⟨cur3, l1, l2, l3'⟩ := setCells_heap_at g (Builtin.zeroCells (Value.int .i64 0).cells (l0.length - (i + l3.length))).toList (i + l3.length) (w.setCells g i vs) cur1 47 (0, 0) g1 (by rw [zeroCells_len]; simp [Value.cells]; omega)
        refine (ref_Ref_113.end2 g l0.length cap i (some ⟨vb, vo, none⟩) l3.length c3 w _ _ hn hm' hij (by omega) hr (fun ty c => run_clear_cells (w.setCells g i vs) 24 47 ty (.int .i64 0) Try.underlying24 Try.zeroValue47 g _ _ c (by omega) (zeroCells_one _ _ (by simp [Value.cells, Value.oneCell'])) (fun t ht => cells_some g1 (by rw [zeroCells_len] at ht; simp [Value.cells] at ht; omega)) (fun t _ => cells_free g1 _))).mono ?_
        rintro e w' ⟨rfl, rfl⟩
        refine ⟨_, rfl, close _ _ cur3 (by rw [Nat.sub_self, Nat.add_zero]) (by omega) l1 (by omega) ?_, bel_setCells (bel_setCells hB hb _ _) hb _ _, kep_setCells (kep_setCells (Kept.refl w _) hP _ _) hP _ _⟩
        rw [Nat.sub_self, Nat.add_zero, l3', List.append_assoc, List.take_append_of_le_length (by simp; omega), List.take_take, Nat.min_self, List.drop_of_length_le (i := l0.length) (by simp; omega), List.append_nil, g3]
        exact List.take_left' (by simp; omega)
    · have hj : j < l0.length := by omega
      by_cases hroom : i + l3.length + (l0.length - j) ≤ cap
      · have hlow : Calls Try.prog 113 #[.slice (some ⟨g, 0, none⟩) l0.length cap, .int .i64 i, .int .i64 j, .slice (some ⟨vb, vo, none⟩) l3.length c3] w fun e w' => e = .returned (.slice (some ⟨g, 0, none⟩) (i + l3.length + (l0.length - j)) cap) ∧
            (∃ cur', w'.heap[g]? = some (.cells cur' 47 (0, 0)) ∧ cur'.size = cap ∧ cur'.toList.take (i + l3.length + (l0.length - j)) = cur.toList.take i ++ vs ++ (cur.toList.take l0.length).drop j) ∧ (∀ B, B ≤ g → ∀ w0, Below B w0 w → Below B w0 w') ∧ Kept w w' (fun k => k = g) := by
          by_cases hfit : i + l3.length ≤ j
          · exact ref_Ref_113.fits g l0.length cap i j cur w hg hs' hn hm' hones vb vo l3.length c3 vs hvl hvs h1v hm0 hvb hj hfit
          · exact ref_Ref_113.spread g l0.length cap i j cur w hg hs' hn hm' hones vb vo l3.length c3 vs hvl hvs h1v hm0 hvb hij hj (by omega) hroom
        refine hlow.mono ?_
        rintro e w' ⟨rfl, ⟨cur', k1, k2, k3⟩, k4, k5⟩
        exact ⟨_, rfl, close _ _ cur' rfl hroom k1 k2 k3, k4 _ hb w0 hB, ⟨k5.1, fun k hk hn => k5.2 k hk (fun e => hn (e ▸ hP))⟩⟩
      · refine (ref_Ref_113.grow g l0.length cap i j cur w hg hs' hn hm' hones vb vo l3.length c3 vs hvl hvs h1v hm0 hij hj (by omega) (by omega)).mono ?_
        rintro e w' ⟨G, rfl, q1, q2, ⟨cur', k1, k2, k3⟩, k4, k5⟩
        refine ⟨_, rfl, (R_iff F).2 ⟨fun k hk => ?_, by rw [flatMap_length F], .inr ⟨w.heap.size, G, cur', by rw [hlr], hB.size, k1, by rw [hlr]; omega, q2, by rw [k2]; exact (Nat.mul_one _).symm, ?_⟩⟩, k4 _ hB.size w0 hB, ⟨k5.1, fun k hk _ => k5.2 k hk (fun h => h)⟩⟩
        · have : w.heap.size = k := by simpa [Value.ownBlock] using hk
          subst this
          exact .inr (Nat.le_refl _)
        · rw [hlr, ← hval, ← k3]
          congr 1
          exact Nat.mul_one _
  · cases h

end Go.Proofs.Ytkoiffkonjpoiaa.Q
