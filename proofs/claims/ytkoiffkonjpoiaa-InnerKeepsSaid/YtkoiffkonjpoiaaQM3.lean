/- Go functions of the program as plain Lean functions, and for each the contract that the call comes to its answers; written by a turned print of this session. -/
import Derived.Test.YtkoiffkonjpoiaaQ0
import Derived.Test.YtkoiffkonjpoiaaQM2
import Derived.Test.YtkoiffkonjpoiaaQM1
namespace Go.Proofs.Ytkoiffkonjpoiaa.Q
open Go.RowKit Go.Proofs.YtkoiffkonjpoiaaW.PrintWords Go.Proofs.YtkoiffkonjpoiaaW.PrintLast Go.Proofs.YtkoiffkonjpoiaaW.PrintMore Go.Proofs.YtkoiffkonjpoiaaX
attribute [local go_sem] max2_int min2_int max_two min_two max_three min_three max_four min_four   -- for this text's walks alone
set_option linter.unusedVariables false
set_option linter.unusedSimpArgs false

theorem run_overlaps_y {P : Program} (w : World) (tS tR e : TypeId) (ht : P.underlying tS = some (.slice e)) (size : Nat) (hz : ∀ w, (Go.sizeOf e).run P w = .ok size w)
    (a b : Addr) (la ca lb cb : Nat) (hne : a.block ≠ b.block) (tA tB : TypeId) (kA kB : Nat)
    (hsa : w.shape? a.block = some (tA, kA)) (hsb : w.shape? b.block = some (tB, kB)) (hkB : kB ≠ 0) (hkA : kA ≠ 0)
    (hfa : ∀ k, w.frozen? { block := a.block, off := k } = false) (has : a.spot = none) :
    (Extern.SlicesOverlaps.overlaps #[tS, tS] #[tR] #[.slice (some a) la ca, .slice (some b) lb cb]).run P w = .ok (.bool false) w := by
  have hnb : (a.block != b.block) = true := by simpa using hne
  have hnb' : (a.block == b.block) = false := by simpa using hne
  have hfa0 : w.frozen? a = false := by
    obtain ⟨bb, bo, bs⟩ := a
    subst has
    exact hfa bo
  change Sem.run P (α := Value) (do
    let some t := (#[tS, tS] : Array TypeId)[0]? | stuck "slices.overlaps: no parameter types"
    let .slice elem ← underlying t | stuck "slices.overlaps: slice type expected"
    let size ← sizeOf elem
    match (some a : Option Addr), (some b : Option Addr) with
    | some a, some b =>
      if la = 0 ∨ lb = 0 ∨ size = 0 then pure (Value.bool false)
      else if a.block != b.block && (← frozen a) && (← frozen b) then unsupported .addressObserved
      else do
        if a.block != b.block then do
          noView a; noView b
          if ← mayBeOne a b then return Value.bool ((← choose (.extern "sameAddr.stringBytes" 2)) == 1)
        pure (Value.bool (a.block == b.block && a.off < b.off + lb * size && b.off < a.off + la * size))
    | _, _ => pure (Value.bool false)) w = _
  by_cases h0 : la = 0 ∨ lb = 0 ∨ size = 0
  · simp [run_underlying ht, hz, h0]
  · cases kB with
    | zero => exact absurd rfl hkB
    | succ kB =>
      cases kA with
      | zero => exact absurd rfl hkA
      | succ kA =>
      cases hfb : w.frozen? b <;> cases hfe : w.frozen? { block := b.block, off := kB + 1 } <;>
      simp [run_underlying ht, hz, h0, hnb, hnb', frozen, noView, viewAt, mayBeOne, stringish, shape, Sem.run, hsa, hsb, hfa, hfb, hfe, hfa0]
theorem run_clear_0 {P : Program} (w : World) (t e ty : TypeId) (ht : P.underlying t = some (.slice e)) (A : Option Addr) (c : Nat) (z : Value) (hv : ∀ w, (zeroValue e).run P w = .ok z w) : (Builtin.clear_ #[t] ty #[.slice A 0 c]).run P w = .ok (.tuple #[]) w := by
  cases A <;> simp [Builtin.clear_, run_underlying ht, hv, Builtin.zeroCells, storeCells]
set_option maxHeartbeats 4000000 in
set_option maxRecDepth 100000 in
theorem ref_Ref_113.fits (g n cap i j : Nat) (cur : Array Value) (w : World) (hg : w.heap[g]? = some (.cells cur 47 (0, 0))) (hsz : cur.size = cap) (hn : n ≤ cap) (hm : cap ≤ 9223372036854775807) (h1c : ∀ u ∈ cur.toList.take n, u.oneCell' = true)
    (vb vo m vc : Nat) (vs : List Value) (hvl : vs.length = m) (hvs : ∀ j u, vs[j]? = some u → w.cell? ⟨vb, vo + j, none⟩ = some u) (h1v : ∀ u ∈ vs, u.oneCell' = true) (hm0 : 0 < m) (hvb : vb ≠ g)
    (hj : j < n) (hfit : i + m ≤ j) :
    Calls Try.prog 113 #[.slice (some ⟨g, 0, none⟩) n cap, .int .i64 i, .int .i64 j, .slice (some ⟨vb, vo, none⟩) m vc] w fun e w' => e = .returned (.slice (some ⟨g, 0, none⟩) (i + m + (n - j)) cap) ∧
      (∃ cur', w'.heap[g]? = some (.cells cur' 47 (0, 0)) ∧ cur'.size = cap ∧ cur'.toList.take (i + m + (n - j)) = cur.toList.take i ++ vs ++ (cur.toList.take n).drop j) ∧ (∀ B, B ≤ g → ∀ w0, Below B w0 w → Below B w0 w') ∧ Kept w w' (fun k => k = g) := by
  obtain ⟨i0, hi0, _, hz1, _⟩ := info_parts info47
  obtain ⟨T, hT⟩ : ∃ T, T = i + m + (n - j) := ⟨_, rfl⟩
  obtain ⟨cs, hcs⟩ : ∃ cs, cs = (cur.toList.take n).drop j := ⟨_, rfl⟩
  have hcl : cs.length = n - j := by rw [hcs]; simp; omega
  have h1s : ∀ u ∈ cs, u.oneCell' = true := fun u hu => h1c u (List.mem_of_mem_drop (hcs ▸ hu))
  -- the first copy
  have hcpA : ∀ (W : World), (∀ x, W.cell? x = w.cell? x) → (∀ x, W.frozen? x = w.frozen? x) → ∀ ty dc, (Builtin.copy_ #[24, 24] ty #[.slice (some ⟨g, i, none⟩) (i + m + (n - j) - i) dc, .slice (some ⟨vb, vo, none⟩) m vc]).run Try.prog W = .ok (goInt (m : Nat)) (W.setCells g i vs) := fun W hWc hWf ty dc => by
    have hmin : Nat.min m (i + m + (n - j) - i) = m := by simp only [Nat.min_def]; split <;> omega
    have := run_copy_K (P := Try.prog) W 24 24 ty 47 i0 g i (i + m + (n - j) - i) dc ⟨vb, vo, none⟩ m vc vs Try.underlying24 hi0 (by rw [hmin, hvl, hz1] <;> omega)
      (fun j u hj => by rw [add_lit', hWc]; exact hvs j u hj)
      (fun j hj => by rw [hWc]; exact cells_some hg (by omega)) (fun j _ => by rw [hWf]; exact cells_free hg _) h1v
    rw [hmin] at this
    exact this
  obtain ⟨W1, hW1⟩ : ∃ W1, W1 = w.drew.setCells g i vs := ⟨_, rfl⟩
  obtain ⟨cur1, g1, g2, g3⟩ := setCells_heap_at g vs i w.drew cur 47 (0, 0) hg (by omega)
  rw [← hW1] at g1
  have hrest : ∀ k, j ≤ k → cur1.toList[k]? = cur.toList[k]? := fun k hk => by
    rw [g3, List.getElem?_append_right (by simp; omega), List.getElem?_drop]
    congr 1
    simp
    omega
  have hcpB : ∀ (W : World), (∀ x, W.cell? x = W1.cell? x) → (∀ x, W.frozen? x = W1.frozen? x) → ∀ ty dc sc, (Builtin.copy_ #[24, 24] ty #[.slice (some ⟨g, i + m, none⟩) (n - j) dc, .slice (some ⟨g, j, none⟩) (n - j) sc]).run Try.prog W = .ok (goInt (n - j : Nat)) (W.setCells g (i + m) cs) := fun W hWc hWf ty dc sc => by
    have hmin : Nat.min (n - j) (n - j) = n - j := Nat.min_self _
    have := run_copy_K (P := Try.prog) W 24 24 ty 47 i0 g (i + m) (n - j) dc ⟨g, j, none⟩ (n - j) sc cs Try.underlying24 hi0 (by rw [hmin, hcl, hz1] <;> omega)
      (fun t u ht => by
        rw [add_lit', hWc, cells_cell g1, hrest _ (by omega)]
        rw [hcs, List.getElem?_drop, List.getElem?_take] at ht
        split at ht
        · exact ht
        · cases ht)
      (fun t ht => by rw [hWc]; exact cells_some g1 (by rw [hcl] at ht; omega)) (fun t _ => by rw [hWf]; exact cells_free g1 _) h1s
    rw [hmin] at this
    exact this
  obtain ⟨W2, hW2⟩ : ∃ W2, W2 = W1.drew.setCells g (i + m) cs := ⟨_, rfl⟩
  obtain ⟨cur2, k1, k2, k3⟩ := setCells_heap_at g cs (i + m) W1.drew cur1 47 (0, 0) g1 (by omega)
  rw [← hW2] at k1
  have c1 : cur1.toList.take (i + m) = cur.toList.take i ++ vs := by
    rw [g3]
    exact List.take_left' (by simp; omega)
  have c2 : cur2.toList.take (i + m + (n - j)) = cur.toList.take i ++ vs ++ cs := by
    rw [k3, c1]
    exact List.take_left' (by simp; omega)
  have hb1 : ∀ B, B ≤ g → ∀ w0, Below B w0 w → Below B w0 W2 := fun B hB w0 h => by rw [hW2, hW1]; exact bel_setCells (below_drew1 (bel_setCells (below_drew1 h) hB _ _)) hB _ _
  have hk1 : Kept w W2 (fun k => k = g) := by rw [hW2, hW1]; exact kep_setCells (S := fun k => k = g) (Kept.drew (kep_setCells (S := fun k => k = g) (Kept.drew (Kept.refl w _)) rfl _ _)) rfl _ _
  -- what is cleared
  have hclr : ∃ W3, (∀ ty c, (Builtin.clear_ #[24] ty #[.slice (if cap = i + m + (n - j) then (some (⟨g, 0, none⟩ : Addr)) else some ⟨g, i + m + (n - j), none⟩) (n - (i + m + (n - j))) c]).run Try.prog W2 = .ok (.tuple #[]) W3) ∧ (∃ cur', W3.heap[g]? = some (.cells cur' 47 (0, 0)) ∧ cur'.size = cap ∧ cur'.toList.take (i + m + (n - j)) = cur.toList.take i ++ vs ++ cs) ∧ (∀ B, B ≤ g → ∀ w0, Below B w0 w → Below B w0 W3) ∧ Kept w W3 (fun k => k = g) := by
    by_cases h0 : n - (i + m + (n - j)) = 0
    · rw [h0]
      exact ⟨W2, fun ty c => run_clear_0 W2 24 47 ty Try.underlying24 _ c _ Try.zeroValue47, ⟨cur2, k1, by omega, c2⟩, hb1, hk1⟩
    · rw [if_neg (by omega)]
      obtain ⟨cur3, l1, l2, l3⟩ := setCells_heap_at g (Builtin.zeroCells (Value.int .i64 0).cells (n - (i + m + (n - j)))).toList (i + m + (n - j)) W2 cur2 47 (0, 0) k1 (by rw [zeroCells_len]; simp [Value.cells]; omega)
      refine ⟨_, fun ty c => run_clear_cells W2 24 47 ty (.int .i64 0) Try.underlying24 Try.zeroValue47 g _ _ c (by omega) (zeroCells_one _ _ (by simp [Value.cells, Value.oneCell'])) (fun t ht => cells_some k1 (by rw [zeroCells_len] at ht; simp [Value.cells] at ht; omega)) (fun t _ => cells_free k1 _), ⟨cur3, l1, by omega, ?_⟩, fun B hB w0 h => bel_setCells (hb1 B hB w0 h) hB _ _, kep_setCells hk1 rfl _ _⟩
      rw [l3, List.append_assoc, List.take_append_of_le_length (by simp; omega), List.take_take, Nat.min_self]
      exact c2
  obtain ⟨W3, hcl3, hfin⟩ := hclr
  rw [← hcs]
  have HF := Lib.hid hfin
  have HW2 := Lib.hid hW2
  have HC3 := Lib.hid hcl3
  have HA := Lib.hid hcpA
  have HB := Lib.hid hcpB
  have HW1 := Lib.hid hW1
  clear hW1 hW2 hfin hcl3 hb1 hk1 c1 c2 k1 k2 k3 g1 g2 g3 hrest hcpA hcpB h1s hcl hcs hvs h1v hvl hvb hg h1c hsz hz1
  have z1 : ¬ ((i : Int) = (j : Int)) := by omega
  have z2 : ¬ ((j : Int) = (n : Int)) := by omega
  have z3 : IntKind.i64.wrap ((i : Int) + (m : Int)) = (i : Int) + (m : Int) := by rw [IntKind.wrap_i64]; omega
  have z4 : IntKind.i64.wrap ((i : Int) + (m : Int) + ((n - j : Nat) : Int)) = (i : Int) + (m : Int) + ((n - j : Nat) : Int) := by rw [IntKind.wrap_i64]; omega
  have z5 : ¬ ((cap : Int) < (i : Int) + (m : Int) + ((n - j : Nat) : Int)) := by omega
  have z6 : (i : Int) + (m : Int) ≤ (j : Int) := by omega
  have z7 : i ≤ cap := by omega
  have z8 : j ≤ cap := by omega
  have z9 : i ≤ j := by omega
  have z10 : ¬ (cap = j) := by omega
  have z11 : ¬ (cap = i) := by omega
  have z12 : j ≤ n := by omega
  have z13 : ((i : Int) + (m : Int) + ((n - j : Nat) : Int)).toNat = i + m + (n - j) := by omega
  have z14 : (0 : Int) ≤ (i : Int) + (m : Int) + ((n - j : Nat) : Int) := by omega
  have z15 : (i : Int) + (m : Int) + ((n - j : Nat) : Int) ≤ (cap : Int) := by omega
  have z16 : ((i : Int) + (m : Int)).toNat = i + m := by omega
  have z17 : (0 : Int) ≤ (i : Int) + (m : Int) := by omega
  have z18 : (i : Int) ≤ (i : Int) + (m : Int) + ((n - j : Nat) : Int) := by omega
  have z19 : ¬ (cap = i + m) := by omega
  have z20 : (i : Int) + (m : Int) + ((n - j : Nat) : Int) ≤ (n : Int) := by omega
  have z21 : (i : Int) + (m : Int) ≤ (i : Int) + (m : Int) + ((n - j : Nat) : Int) := by omega
  go_enter Try.func113, Try.ntmps113
  go_wp2_with fail
  go_region_law fail
  have RA := HA.out w.drew (fun _ => rfl) (fun _ => rfl)
  go_wp2_with fail
  clear RA
  rw [← HW1.out]
  have HB' := HB.out W1.drew (fun _ => rfl) (fun _ => rfl)
  go_region_law (refine stepx_copy rfl (.tmp 103) (.tmp 106) 24 24 rfl (.slice (some ⟨g, i + m, none⟩) (n - j) (cap - (i + m))) (.slice (some ⟨g, j, none⟩) (n - j) (cap - j)) (by simp [Act.eval, Act.put]) (by simp [Act.eval, Act.put]) (HB' 3 (cap - (i + m)) (cap - j)) ?_)
  rw [← HW2.out]
  have HC := HC3.out
  go_wp2_with fail
  all_goals (go_ret; exact ⟨rfl, by have h := HF.out; (try rw [List.append_assoc] at h); first | exact h | (have hc : cap = i + m + (n - j) := (by assumption); rw [hc] at h; exact h)⟩)
set_option maxHeartbeats 4000000 in
set_option maxRecDepth 100000 in
theorem ref_Ref_113.spread (g n cap i j : Nat) (cur : Array Value) (w : World) (hg : w.heap[g]? = some (.cells cur 47 (0, 0))) (hsz : cur.size = cap) (hn : n ≤ cap) (hm : cap ≤ 9223372036854775807) (h1c : ∀ u ∈ cur.toList.take n, u.oneCell' = true)
    (vb vo m vc : Nat) (vs : List Value) (hvl : vs.length = m) (hvs : ∀ j u, vs[j]? = some u → w.cell? ⟨vb, vo + j, none⟩ = some u) (h1v : ∀ u ∈ vs, u.oneCell' = true) (hm0 : 0 < m) (hvb : vb ≠ g)
    (hij : i < j) (hj : j < n) (hfit : j < i + m) (hroom : i + m + (n - j) ≤ cap) :
    Calls Try.prog 113 #[.slice (some ⟨g, 0, none⟩) n cap, .int .i64 i, .int .i64 j, .slice (some ⟨vb, vo, none⟩) m vc] w fun e w' => e = .returned (.slice (some ⟨g, 0, none⟩) (i + m + (n - j)) cap) ∧
      (∃ cur', w'.heap[g]? = some (.cells cur' 47 (0, 0)) ∧ cur'.size = cap ∧ cur'.toList.take (i + m + (n - j)) = cur.toList.take i ++ vs ++ (cur.toList.take n).drop j) ∧ (∀ B, B ≤ g → ∀ w0, Below B w0 w → Below B w0 w') ∧ Kept w w' (fun k => k = g) := by
  obtain ⟨i0, hi0, _, hz1, _⟩ := info_parts info47
  obtain ⟨cs, hcs⟩ : ∃ cs, cs = (cur.toList.take n).drop j := ⟨_, rfl⟩
  have hcl : cs.length = n - j := by rw [hcs]; simp; omega
  have h1s : ∀ u ∈ cs, u.oneCell' = true := fun u hu => h1c u (List.mem_of_mem_drop (hcs ▸ hu))
  obtain ⟨u0, hu0⟩ : ∃ u, vs[0]? = some u := ⟨_, List.getElem?_eq_getElem (by omega)⟩
  have hc0 := hvs 0 u0 hu0
  obtain ⟨cA, tA, fA, hA, hA0⟩ : ∃ cA tA fA, w.heap[vb]? = some (.cells cA tA fA) ∧ cA.size ≠ 0 := by
    unfold World.cell? at hc0
    split at hc0
    · rename_i c t f h
      refine ⟨c, t, f, h, ?_⟩
      simp at hc0
      intro h0
      rw [Array.getElem?_eq_none (by omega)] at hc0
      cases hc0
    · cases hc0
  have hov : ∀ lb cb, (callFunc 128 #[.slice (some ⟨g, i + m, none⟩) lb cb, .slice (some ⟨vb, vo, none⟩) m vc]).run Try.prog w.drew = .ok (.value (.bool false)) w.drew := fun lb cb => by
    rw [run_callFunc_extern Try.func128 (by kernel_rfl) (by kernel_rfl) (by kernel_rfl) (e := Extern.SlicesOverlaps.overlaps #[24, 24] #[4]) (by kernel_rfl),
      run_overlaps_y w.drew 24 4 47 Try.underlying24 1 Try.sizeOf47 ⟨g, i + m, none⟩ ⟨vb, vo, none⟩ lb cb m vc (Ne.symm hvb) 47 tA cur.size cA.size (show w.shape? g = _ by simp [World.shape?, hg]) (show w.shape? vb = _ by simp [World.shape?, hA]) hA0 (by omega) (fun k => cells_free (w := w) hg k) rfl]
    rfl
  have hcpA : ∀ ty dc sc, (Builtin.copy_ #[24, 24] ty #[.slice (some ⟨g, i + m, none⟩) (n - j) dc, .slice (some ⟨g, j, none⟩) (n - j) sc]).run Try.prog w.drew.drew = .ok (goInt (n - j : Nat)) (w.drew.drew.setCells g (i + m) cs) := fun ty dc sc => by
    have hmin : Nat.min (n - j) (n - j) = n - j := Nat.min_self _
    have := run_copy_K (P := Try.prog) w.drew.drew 24 24 ty 47 i0 g (i + m) (n - j) dc ⟨g, j, none⟩ (n - j) sc cs Try.underlying24 hi0 (by rw [hmin, hcl, hz1] <;> omega)
      (fun t u ht => by
        rw [add_lit']
        show w.cell? _ = _
        rw [cells_cell hg]
        rw [hcs, List.getElem?_drop, List.getElem?_take] at ht
        split at ht
        · exact ht
        · cases ht)
      (fun t ht => cells_some (w := w) hg (by rw [hcl] at ht; omega)) (fun t _ => cells_free (w := w) hg _) h1s
    rw [hmin] at this
    exact this
  obtain ⟨W1, hW1⟩ : ∃ W1, W1 = w.drew.drew.setCells g (i + m) cs := ⟨_, rfl⟩
  obtain ⟨cur1, g1, g2, g3⟩ := setCells_heap_at g cs (i + m) w.drew.drew cur 47 (0, 0) hg (by omega)
  have gv : W1.heap[vb]? = w.heap[vb]? := by rw [hW1]; exact setCells_heap_ne g cs _ w.drew.drew vb hvb
  rw [← hW1] at g1 hcpA
  have hcpB : ∀ ty dc, (Builtin.copy_ #[24, 24] ty #[.slice (some ⟨g, i, none⟩) (i + m + (n - j) - i) dc, .slice (some ⟨vb, vo, none⟩) m vc]).run Try.prog W1 = .ok (goInt (m : Nat)) (W1.setCells g i vs) := fun ty dc => by
    have hmin : Nat.min m (i + m + (n - j) - i) = m := by simp only [Nat.min_def]; split <;> omega
    have := run_copy_K (P := Try.prog) W1 24 24 ty 47 i0 g i (i + m + (n - j) - i) dc ⟨vb, vo, none⟩ m vc vs Try.underlying24 hi0 (by rw [hmin, hvl, hz1] <;> omega)
      (fun j u hj => by
        rw [add_lit']
        have := hvs j u hj
        simp only [World.cell?] at this ⊢
        rw [gv]
        exact this)
      (fun j hj => cells_some g1 (by omega)) (fun j _ => cells_free g1 _) h1v
    rw [hmin] at this
    exact this
  obtain ⟨W2, hW2⟩ : ∃ W2, W2 = W1.setCells g i vs := ⟨_, rfl⟩
  obtain ⟨cur2, k1, k2, k3⟩ := setCells_heap_at g vs i W1 cur1 47 (0, 0) g1 (by omega)
  rw [← hW2] at k1 hcpB
  have hfin : (∃ cur', W2.heap[g]? = some (.cells cur' 47 (0, 0)) ∧ cur'.size = cap ∧ cur'.toList.take (i + m + (n - j)) = cur.toList.take i ++ vs ++ cs) ∧ (∀ B, B ≤ g → ∀ w0, Below B w0 w → Below B w0 W2) ∧ Kept w W2 (fun k => k = g) := by
    refine ⟨⟨cur2, k1, by omega, ?_⟩, fun B hB w0 h => by rw [hW2, hW1]; exact bel_setCells (bel_setCells (below_drew1 (below_drew1 h)) hB _ _) hB _ _, by rw [hW2, hW1]; exact kep_setCells (S := fun k => k = g) (kep_setCells (S := fun k => k = g) (Kept.drew (Kept.drew (Kept.refl w _))) rfl _ _) rfl _ _⟩
    have d1 : cur1.toList.take i = cur.toList.take i := by
      rw [g3, List.append_assoc, List.take_append_of_le_length (by simp; omega), List.take_take, Nat.min_eq_left (by omega)]
    have d2 : (cur1.toList.drop (i + vs.length)).take (n - j) = cs := by
      rw [g3, hvl, List.append_assoc, List.drop_left' (by simp; omega)]
      exact List.take_left' hcl
    rw [k3, d1, List.take_append, List.take_of_length_le (by simp; omega)]
    congr 1
    rw [← d2]
    congr 1
    simp
    omega
  rw [← hcs]
  have HF := Lib.hid hfin
  have HA := Lib.hid hcpA
  clear hfin hW1 hW2 k1 k2 k3 g1 g2 g3 gv h1s hcl hcs hvs h1v hvl hvb hg h1c hsz hz1 hA hA0 hu0 hc0
  have z1 : ¬ ((i : Int) = (j : Int)) := by omega
  have z2 : ¬ ((j : Int) = (n : Int)) := by omega
  have z3 : IntKind.i64.wrap ((i : Int) + (m : Int)) = (i : Int) + (m : Int) := by rw [IntKind.wrap_i64]; omega
  have z4 : IntKind.i64.wrap ((i : Int) + (m : Int) + ((n - j : Nat) : Int)) = (i : Int) + (m : Int) + ((n - j : Nat) : Int) := by rw [IntKind.wrap_i64]; omega
  have z7 : i ≤ cap := by omega
  have z8 : j ≤ cap := by omega
  have z9 : i ≤ j := by omega
  have z10 : ¬ (cap = j) := by omega
  have z11 : ¬ (cap = i) := by omega
  have z12 : j ≤ n := by omega
  have z13 : ((i : Int) + (m : Int) + ((n - j : Nat) : Int)).toNat = i + m + (n - j) := by omega
  have z14 : (0 : Int) ≤ (i : Int) + (m : Int) + ((n - j : Nat) : Int) := by omega
  have z16 : ((i : Int) + (m : Int)).toNat = i + m := by omega
  have z17 : (0 : Int) ≤ (i : Int) + (m : Int) := by omega
  have z18 : (i : Int) ≤ (i : Int) + (m : Int) + ((n - j : Nat) : Int) := by omega
  have z21 : (i : Int) + (m : Int) ≤ (i : Int) + (m : Int) + ((n - j : Nat) : Int) := by omega
  have z5 : ¬ ((cap : Int) < (i : Int) + (m : Int) + ((n - j : Nat) : Int)) := by omega
  have z6 : ¬ ((i : Int) + (m : Int) ≤ (j : Int)) := by omega
  have z15 : (i : Int) + (m : Int) + ((n - j : Nat) : Int) ≤ (cap : Int) := by omega
  have z19 : ¬ (cap = i + m) := by omega
  go_enter Try.func113, Try.ntmps113
  go_wp2_with fail
  go_region_law fail
  go_wp2_with (simp only [hov])
  have HA' := HA.out
  go_region_law (refine stepx_copy rfl (.tmp 126) (.tmp 129) 24 24 rfl (.slice (some ⟨g, i + m, none⟩) (n - j) (cap - (i + m))) (.slice (some ⟨g, j, none⟩) (n - j) (cap - j)) (by simp [Act.eval, Act.put]) (by simp [Act.eval, Act.put]) (HA' 3 (cap - (i + m)) (cap - j)) ?_)
  go_wp2_with fail
  go_ret
  exact ⟨rfl, HF.out⟩
set_option maxHeartbeats 4000000 in
set_option maxRecDepth 100000 in
theorem ref_Ref_113.grow (g n cap i j : Nat) (cur : Array Value) (w : World) (hg : w.heap[g]? = some (.cells cur 47 (0, 0))) (hsz : cur.size = cap) (hn : n ≤ cap) (hm : cap ≤ 9223372036854775807) (h1c : ∀ u ∈ cur.toList.take n, u.oneCell' = true)
    (vb vo m vc : Nat) (vs : List Value) (hvl : vs.length = m) (hvs : ∀ j u, vs[j]? = some u → w.cell? ⟨vb, vo + j, none⟩ = some u) (h1v : ∀ u ∈ vs, u.oneCell' = true) (hm0 : 0 < m)
    (hij : i < j) (hj : j < n) (hroom : cap < i + m + (n - j)) (hbig : (n + m) * 8 ≤ 140737488355328) :
    Calls Try.prog 113 #[.slice (some ⟨g, 0, none⟩) n cap, .int .i64 i, .int .i64 j, .slice (some ⟨vb, vo, none⟩) m vc] w fun e w' => ∃ (G : Nat), e = .returned (.slice (some ⟨w.heap.size, 0, none⟩) (i + m + (n - j)) G) ∧ i + m + (n - j) ≤ G ∧ G ≤ maxLen ∧
      (∃ cur', w'.heap[w.heap.size]? = some (.cells cur' 47 (0, 0)) ∧ cur'.size = G ∧ cur'.toList.take (i + m + (n - j)) = cur.toList.take i ++ vs ++ (cur.toList.take n).drop j) ∧ (∀ B, B ≤ w.heap.size → ∀ w0, Below B w0 w → Below B w0 w') ∧ Kept w w' (fun _ => False) := by
  obtain ⟨i0, hi0, hz0, hz1, hzb⟩ := info_parts info47
  have hgw : g < w.heap.size := (Array.getElem?_eq_some_iff.1 hg).1
  have hvw : vb < w.heap.size := World.block_lt_of_cell? w _ (hvs 0 _ (List.getElem?_eq_getElem (by omega)))
  obtain ⟨cs, hcs⟩ : ∃ cs, cs = (cur.toList.take n).drop j := ⟨_, rfl⟩
  have hcl : cs.length = n - j := by rw [hcs]; simp; omega
  have h1s : ∀ u ∈ cs, u.oneCell' = true := fun u hu => h1c u (List.mem_of_mem_drop (hcs ▸ hu))
  have hkk : (i : Int) + (m : Int) + ((n - j : Nat) : Int) - (i : Int) = ((m + (n - j) : Nat) : Int) := by omega
  have hik : i + (m + (n - j)) = i + m + (n - j) := by omega
  have hold : (Builtin.firstCells i0.size i (.slice (some ⟨g, 0, none⟩) i cap)).run Try.prog w.drew.drew = .ok (cur.toList.take i).toArray w.drew.drew := by
    rw [hz1]
    exact run_firstCells_some w.drew.drew 1 i ⟨g, 0, none⟩ i cap (cur.toList.take i) (by rw [List.length_take]; simp; omega) (fun j v hj => by
      rw [add_lit', Nat.zero_add]
      show w.cell? _ = _
      rw [cells_cell hg]
      rw [List.getElem?_take] at hj
      split at hj
      · exact hj
      · cases hj)
  have hG63 : grownCap w.drew (i + m + (n - j)) cap 47 ≤ maxLen := grownCap_le_maxLen w.drew (i + m + (n - j)) cap 47 (by unfold maxLen; omega)
  have hrz : ∀ ty, (Builtin.append_ #[24, 3] ty #[.slice (some ⟨g, 0, none⟩) i cap, .int .i64 ((i : Int) + (m : Int) + ((n - j : Nat) : Int) - (i : Int))]).run Try.prog w.drew =
      .ok (.slice (some ⟨w.heap.size, 0, none⟩) (i + m + (n - j)) (grownCap w.drew (i + m + (n - j)) cap 47)) (w.drew.drew.alloc (.cells ((cur.toList.take i).toArray ++ Builtin.zeroCells (Value.int .i64 0).cells (m + (n - j)) ++ Builtin.zeroCells (Value.int .i64 0).cells (grownCap w.drew (i + m + (n - j)) cap 47 - (i + m + (n - j)))) 47)) := fun ty => by
    have h := Lib.run_append_grow_zeros w.drew 24 3 ty 47 i0 _ .i64 .i64 Try.underlying24 Try.underlying3 hi0 hz0 (some ⟨g, 0, none⟩) i cap (cur.toList.take i) hold (m + (n - j)) (by omega) (by omega) (by omega) (by omega) (by rw [hzb]; omega) (by rw [hzb, hik]; exact growslice_fits hroom (by omega))
    rw [hik] at h
    rw [hkk]
    exact h
  have hGn : i + m + (n - j) ≤ grownCap w.drew (i + m + (n - j)) cap 47 := grownCap_ge w.drew _ _ _
  generalize grownCap w.drew (i + m + (n - j)) cap 47 = G at hrz hG63 hGn
  have hG63' : G ≤ 9223372036854775807 := by unfold maxLen at hG63; omega
  obtain ⟨ROW, hROW⟩ : ∃ ROW : Array Value, ROW = (cur.toList.take i).toArray ++ Builtin.zeroCells (Value.int .i64 0).cells (m + (n - j)) ++ Builtin.zeroCells (Value.int .i64 0).cells (G - (i + m + (n - j))) := ⟨_, rfl⟩
  rw [← hROW] at hrz
  have hRs : ROW.size = G := by
    rw [hROW]
    simp [Builtin.zeroCells, Value.cells]
    omega
  have hRt : ROW.toList.take i = cur.toList.take i := by
    rw [hROW]
    simp only [Array.toList_append, List.append_assoc]
    exact List.take_left' (by rw [List.length_take]; simp; omega)
  obtain ⟨W1, hW1⟩ : ∃ W1, W1 = w.drew.drew.alloc (.cells ROW 47) := ⟨_, rfl⟩
  rw [← hW1] at hrz
  have e1 : W1.heap[w.heap.size]? = some (.cells ROW 47 (0, 0)) := by rw [hW1]; exact heap_alloc_new w.drew.drew _
  have hOb : ∀ j v, w.cell? ⟨g, j, none⟩ = some v → W1.cell? ⟨g, j, none⟩ = some v := fun j v h => by rw [hW1, World.cell?_alloc_past (w := w.drew.drew) _ g j hgw]; exact h
  have hOv : ∀ j v, w.cell? ⟨vb, j, none⟩ = some v → W1.cell? ⟨vb, j, none⟩ = some v := fun j v h => by rw [hW1, World.cell?_alloc_past (w := w.drew.drew) _ vb j hvw]; exact h
  have hcpA : ∀ ty dc, (Builtin.copy_ #[24, 24] ty #[.slice (some ⟨w.heap.size, i, none⟩) (i + m + (n - j) - i) dc, .slice (some ⟨vb, vo, none⟩) m vc]).run Try.prog W1 = .ok (goInt (m : Nat)) (W1.setCells w.heap.size i vs) := fun ty dc => by
    have hmin : Nat.min m (i + m + (n - j) - i) = m := by simp only [Nat.min_def]; split <;> omega
    have := run_copy_K (P := Try.prog) W1 24 24 ty 47 i0 w.heap.size i (i + m + (n - j) - i) dc ⟨vb, vo, none⟩ m vc vs Try.underlying24 hi0 (by rw [hmin, hvl, hz1] <;> omega)
      (fun j v hj => by rw [add_lit']; exact hOv _ v (hvs j v hj))
      (fun j hj => cells_some e1 (by omega)) (fun j hj => cells_free e1 _) h1v
    rw [hmin] at this
    exact this
  obtain ⟨W2, hW2⟩ : ∃ W2, W2 = W1.setCells w.heap.size i vs := ⟨_, rfl⟩
  obtain ⟨cur1, g1, g2, g3⟩ := setCells_heap_at w.heap.size vs i W1 ROW 47 (0, 0) e1 (by omega)
  rw [← hW2] at g1 hcpA
  have hout : ∀ k, W2.cell? ⟨g, k, none⟩ = W1.cell? ⟨g, k, none⟩ := fun k => by rw [hW2]; exact World.cell?_setCells_out _ _ _ _ _ (fun h _ => absurd h (show g ≠ w.heap.size by omega))
  have hcpB : ∀ ty dc sc, (Builtin.copy_ #[24, 24] ty #[.slice (some ⟨w.heap.size, i + m, none⟩) (n - j) dc, .slice (some ⟨g, j, none⟩) (n - j) sc]).run Try.prog W2.drew = .ok (goInt (n - j : Nat)) (W2.drew.setCells w.heap.size (i + m) cs) := fun ty dc sc => by
    have hmin : Nat.min (n - j) (n - j) = n - j := Nat.min_self _
    have := run_copy_K (P := Try.prog) W2.drew 24 24 ty 47 i0 w.heap.size (i + m) (n - j) dc ⟨g, j, none⟩ (n - j) sc cs Try.underlying24 hi0 (by rw [hmin, hcl, hz1] <;> omega)
      (fun t v ht => by
        rw [add_lit']
        show W2.cell? _ = _
        rw [hout]
        refine hOb _ v ?_
        rw [cells_cell hg]
        rw [hcs, List.getElem?_drop, List.getElem?_take] at ht
        split at ht
        · exact ht
        · cases ht)
      (fun t ht => cells_some (w := W2) g1 (by rw [hcl] at ht; omega)) (fun t _ => cells_free (w := W2) g1 _) h1s
    rw [hmin] at this
    exact this
  obtain ⟨W3, hW3⟩ : ∃ W3, W3 = W2.drew.setCells w.heap.size (i + m) cs := ⟨_, rfl⟩
  obtain ⟨cur2, k1, k2, k3⟩ := setCells_heap_at w.heap.size cs (i + m) W2.drew cur1 47 (0, 0) g1 (by omega)
  rw [← hW3] at k1 hcpB
  have hfin : i + m + (n - j) ≤ G ∧ G ≤ maxLen ∧ (∃ cur', W3.heap[w.heap.size]? = some (.cells cur' 47 (0, 0)) ∧ cur'.size = G ∧ cur'.toList.take (i + m + (n - j)) = cur.toList.take i ++ vs ++ cs) ∧ (∀ B, B ≤ w.heap.size → ∀ w0, Below B w0 w → Below B w0 W3) ∧ Kept w W3 (fun _ => False) := by
    refine ⟨hGn, hG63, ⟨cur2, k1, by omega, ?_⟩, fun B hB w0 h => ?_, ?_⟩
    · have c1 : cur1.toList.take (i + m) = cur.toList.take i ++ vs := by
        rw [g3, hRt]
        exact List.take_left' (by simp; omega)
      rw [k3, c1]
      exact List.take_left' (by simp; omega)
    · rw [hW3, hW2, hW1]
      have h1 : Below B w0 (w.drew.drew.alloc (.cells ROW 47)) := Below.alloc (below_drew1 (below_drew1 h)) hB _
      exact bel_setCells (below_drew1 (bel_setCells h1 hB _ _)) hB _ _
    · have h1 : Kept w W1 (fun k => k = w.heap.size) := by rw [hW1]; exact Kept.alloc (Kept.drew (Kept.drew (Kept.refl w _))) _
      have h2 : Kept w W3 (fun k => k = w.heap.size) := by rw [hW3, hW2]; exact kep_setCells (S := fun k => k = w.heap.size) (Kept.drew (kep_setCells (S := fun k => k = w.heap.size) h1 rfl _ _)) rfl _ _
      exact ⟨h2.1, fun k hk _ => h2.2 k hk (by omega)⟩
  rw [← hcs]
  obtain ⟨Fin, hFin⟩ : ∃ Fin : Ending → World → Prop, Fin = fun e w' => ∃ (G : Nat), e = .returned (.slice (some ⟨w.heap.size, 0, none⟩) (i + m + (n - j)) G) ∧ i + m + (n - j) ≤ G ∧ G ≤ maxLen ∧ (∃ cur', w'.heap[w.heap.size]? = some (.cells cur' 47 (0, 0)) ∧ cur'.size = G ∧ cur'.toList.take (i + m + (n - j)) = cur.toList.take i ++ vs ++ cs) ∧ (∀ B, B ≤ w.heap.size → ∀ w0, Below B w0 w → Below B w0 w') ∧ Kept w w' (fun _ => False) := ⟨_, rfl⟩
  have HF : Hid (Fin (.returned (.slice (some ⟨w.heap.size, 0, none⟩) (i + m + (n - j)) G)) W3) := Lib.hid (by rw [hFin]; exact ⟨G, rfl, hfin⟩)
  rw [← hFin]
  have HZ := Lib.hid hrz
  have HA := Lib.hid hcpA
  have HB := Lib.hid hcpB
  have HW1 := Lib.hid hW1
  clear hfin hFin hW1 hW2 hW3 k1 k2 k3 g1 g2 g3 h1s hcl hcs hvs h1v hvl hg h1c hsz hz1 hrz hcpA hcpB hout hOb hOv e1 hRs hRt hROW hold hik hkk hG63
  have z1 : ¬ ((i : Int) = (j : Int)) := by omega
  have z2 : ¬ ((j : Int) = (n : Int)) := by omega
  have z3 : IntKind.i64.wrap ((i : Int) + (m : Int)) = (i : Int) + (m : Int) := by rw [IntKind.wrap_i64]; omega
  have z4 : IntKind.i64.wrap ((i : Int) + (m : Int) + ((n - j : Nat) : Int)) = (i : Int) + (m : Int) + ((n - j : Nat) : Int) := by rw [IntKind.wrap_i64]; omega
  have z7 : i ≤ cap := by omega
  have z8 : j ≤ cap := by omega
  have z9 : i ≤ j := by omega
  have z10 : ¬ (cap = j) := by omega
  have z11 : ¬ (cap = i) := by omega
  have z12 : j ≤ n := by omega
  have z13 : ((i : Int) + (m : Int) + ((n - j : Nat) : Int)).toNat = i + m + (n - j) := by omega
  have z14 : (0 : Int) ≤ (i : Int) + (m : Int) + ((n - j : Nat) : Int) := by omega
  have z16 : ((i : Int) + (m : Int)).toNat = i + m := by omega
  have z17 : (0 : Int) ≤ (i : Int) + (m : Int) := by omega
  have z18 : (i : Int) ≤ (i : Int) + (m : Int) + ((n - j : Nat) : Int) := by omega
  have z21 : (i : Int) + (m : Int) ≤ (i : Int) + (m : Int) + ((n - j : Nat) : Int) := by omega
  have z5 : (cap : Int) < (i : Int) + (m : Int) + ((n - j : Nat) : Int) := by omega
  have z22 : IntKind.i64.wrap ((i : Int) + (m : Int) + ((n - j : Nat) : Int) - (i : Int)) = (i : Int) + (m : Int) + ((n - j : Nat) : Int) - (i : Int) := by rw [IntKind.wrap_i64]; omega
  have z23 : ¬ (G = i) := by omega
  have z24 : ¬ (G = i + m) := by omega
  go_enter Try.func113, Try.ntmps113
  go_wp2_with fail
  go_region_law fail
  have HA' := HA.out
  go_wp2_with (at_builtin; refine Lib.wpList_append_run _ rfl _ _ _ _ rfl _ _ rfl rfl _ _ (HZ.out _) ?_)
  clear HA'
  have HB' := HB.out
  go_region_law (refine stepx_copy rfl (.tmp 78) (.tmp 81) 24 24 rfl (.slice (some ⟨w.heap.size, i + m, none⟩) (n - j) (G - (i + m))) (.slice (some ⟨g, j, none⟩) (n - j) (cap - j)) (by simp [Act.eval, Act.put]) (by simp [Act.eval, Act.put]) (HB' 3 (G - (i + m)) (cap - j)) ?_)
  go_wp2_with fail
  exact HF.out
set_option maxHeartbeats 4000000 in
set_option maxRecDepth 100000 in
theorem ref_Ref_113.end1 (g n cap i : Nat) (A A' : Option Addr) (m vc c' : Nat) (w w1 : World) (hn : n ≤ cap) (hm : cap ≤ 9223372036854775807) (hi : i < n) (hfit : n ≤ i + m)
    (hr : (Builtin.append_ #[24, 24] 24 #[.slice (some ⟨g, 0, none⟩) i cap, .slice A m vc]).run Try.prog w = .ok (.slice A' (i + m) c') w1) :
    Calls Try.prog 113 #[.slice (some ⟨g, 0, none⟩) n cap, .int .i64 i, .int .i64 n, .slice A m vc] w fun e w' => e = .returned (.slice A' (i + m) c') ∧ w' = w1 := by
  have z1 : ¬ ((i : Int) = (n : Int)) := by omega
  have z7 : i ≤ cap := by omega
  have z9 : i ≤ n := by omega
  have z11 : ¬ (cap = i) := by omega
  have z5 : ¬ ((i : Int) + (m : Int) < (n : Int)) := by omega
  have HR := Lib.hid hr
  clear hr
  go_enter Try.func113, Try.ntmps113
  go_wp2_with (at_builtin; refine Lib.wpList_append_run _ rfl _ _ _ _ rfl _ _ rfl rfl _ _ HR.out ?_)
  go_ret
  exact ⟨rfl, rfl⟩
set_option maxHeartbeats 4000000 in
set_option maxRecDepth 100000 in
theorem ref_Ref_113.end2 (g n cap i : Nat) (A : Option Addr) (m vc : Nat) (w w1 w2 : World) (hn : n ≤ cap) (hm : cap ≤ 9223372036854775807) (hi : i < n) (hfit : i + m < n)
    (hr : (Builtin.append_ #[24, 24] 24 #[.slice (some ⟨g, 0, none⟩) i cap, .slice A m vc]).run Try.prog w = .ok (.slice (some ⟨g, 0, none⟩) (i + m) cap) w1)
    (hc : ∀ ty c, (Builtin.clear_ #[24] ty #[.slice (some ⟨g, i + m, none⟩) (n - (i + m)) c]).run Try.prog w1 = .ok (.tuple #[]) w2) :
    Calls Try.prog 113 #[.slice (some ⟨g, 0, none⟩) n cap, .int .i64 i, .int .i64 n, .slice A m vc] w fun e w' => e = .returned (.slice (some ⟨g, 0, none⟩) (i + m) cap) ∧ w' = w2 := by
  have z1 : ¬ ((i : Int) = (n : Int)) := by omega
  have z7 : i ≤ cap := by omega
  have z9 : i ≤ n := by omega
  have z11 : ¬ (cap = i) := by omega
  have z5 : (i : Int) + (m : Int) < (n : Int) := by omega
  have z6 : ((i : Int) + (m : Int)).toNat = i + m := by omega
  have z8 : (0 : Int) ≤ (i : Int) + (m : Int) := by omega
  have z10 : (i : Int) + (m : Int) ≤ (n : Int) := by omega
  have z12 : ¬ (cap = i + m) := by omega
  have HR := Lib.hid hr
  clear hr
  go_enter Try.func113, Try.ntmps113
  go_wp2_with (at_builtin; refine Lib.wpList_append_run _ rfl _ _ _ _ rfl _ _ rfl rfl _ _ HR.out ?_)
  go_ret
  exact ⟨rfl, rfl⟩
/-- Instead of the elements from a1 on up to a2 (one at least) some others (one at least). -/
def ref_Ref_113.f (l0 : List Int) (a1 a2 : Int) (l3 : List Int) : Option (List Int) := if 0 ≤ a1 ∧ a1 < a2 ∧ a2 ≤ (l0.length : Int) ∧ 0 < l3.length ∧ l0.length + l3.length < 17592186044416 then some (l0.take a1.toNat ++ l3 ++ l0.drop a2.toNat) else none
set_option maxHeartbeats 1000000 in
theorem ref_Ref_113.calls (P0_ : Nat → Prop) (u9000_ : Value) (l0 : List Int) (a1 : Int) (a2 : Int) (A3 : Option Addr) (c3 : Nat) (l3 : List Int) (r : List Int) (w0 w : World) (hB : Below w0.heap.size w0 w) (ho0 : Kd.R (Kd.int .i64) 47 w w0.heap.size P0_ u9000_ l0) (hr3 : ∀ W_, Kept w W_ (fun k_ => P0_ k_) → Kd.C (Kd.int .i64) W_ A3 l3.length l3) (hc3 : l3.length ≤ c3) (h : ref_Ref_113.f l0 a1 a2 l3 = some r) :
    Calls Try.prog 113 #[u9000_, .int .i64 a1, .int .i64 a2, .slice A3 l3.length c3] w fun e w' => ∃ v0_ : Value, e = .returned v0_ ∧ Kd.R (Kd.int .i64) 47 w' w0.heap.size (fun k_ => (P0_ k_ ∨ w.heap.size ≤ k_)) v0_ r ∧ Below w0.heap.size w0 w' ∧ Kept w w' (fun k_ => P0_ k_) := by
  unfold ref_Ref_113.f at h
  split at h
  · rename_i hc
    obtain ⟨h0, h1, h2, hm0, hL⟩ := hc
    obtain rfl := Option.some.inj h
    clear h
    obtain ⟨i, rfl⟩ := Int.eq_ofNat_of_zero_le h0
    obtain ⟨j, rfl⟩ := Int.eq_ofNat_of_zero_le (show 0 ≤ a2 by omega)
    rw [Int.toNat_natCast, Int.toNat_natCast]
    have hij : i < j := by omega
    have hjn : j ≤ l0.length := by omega
    clear h0 h1 h2
    have F := flat_int .i64
    have et : ∀ (l : List Int) (k : Nat), (l.flatMap fun x => [Value.int .i64 x]).take k = (l.take k).flatMap fun x => [Value.int .i64 x] := fun l k => by have := flatMap_take F l k; rwa [show (Kd.int .i64).sz = 1 from rfl, Nat.mul_one] at this
    have ed : ∀ (l : List Int) (k : Nat), (l.flatMap fun x => [Value.int .i64 x]).drop k = (l.drop k).flatMap fun x => [Value.int .i64 x] := fun l k => by have := flatMap_drop F l k; rwa [show (Kd.int .i64).sz = 1 from rfl, Nat.mul_one] at this
    have el : ∀ (l : List Int), (l.flatMap fun x => [Value.int .i64 x]).length = l.length := fun l => by have := flatMap_length F l; rwa [show (Kd.int .i64).sz = 1 from rfl, Nat.mul_one] at this
    obtain ⟨hok, hown⟩ := (R_iff F).1 ho0
    rcases hown.2 with ⟨_, h0⟩ | ⟨g, cap, cur, rfl, hb, hg, hn, hm, hs, ht⟩
    · omega
    have hP : P0_ g := hok g rfl
    have hm' : cap ≤ 9223372036854775807 := by simpa [maxLen] using hm
    have hs' : cur.size = cap := by rw [hs]; exact Nat.mul_one _
    have ht' : cur.toList.take l0.length = l0.flatMap fun x => [Value.int .i64 x] := by rw [← ht]; congr 1; exact (Nat.mul_one _).symm
    have hones : ∀ u ∈ cur.toList.take l0.length, u.oneCell' = true := by rw [ht']; exact Flat.ones F l0
    obtain ⟨vs, hvs0⟩ : ∃ vs, vs = l3.flatMap fun x => [Value.int .i64 x] := ⟨_, rfl⟩
    have hvl : vs.length = l3.length := by rw [hvs0, el]
    have h1v : ∀ u ∈ vs, u.oneCell' = true := by rw [hvs0]; exact Flat.ones F l3
    have hne : l3 ≠ [] := List.length_pos_iff.1 hm0
    obtain ⟨vb, vo, rfl, hvs⟩ : ∃ b o, A3 = some ⟨b, o, none⟩ ∧ ∀ j u, vs[j]? = some u → w.cell? ⟨b, o + j, none⟩ = some u := by
      rcases C_at F (hr3 w (Kept.refl _ _)) with h0 | h0
      · rw [← hvs0] at h0; rw [h0] at hvl; simp at hvl; omega
      · rw [← hvs0] at h0; exact h0
    have hvb : vb ≠ g := apart_of_kept F hP hne hr3
    have hcur : cur.toList.take i = (l0.take i).flatMap fun x => [Value.int .i64 x] := by rw [← et, ← ht', List.take_take, Nat.min_eq_left (by omega)]
    have hlr : (l0.take i ++ l3 ++ l0.drop j).length = i + l3.length + (l0.length - j) := by simp; omega
    have hval : cur.toList.take i ++ vs ++ (cur.toList.take l0.length).drop j = (l0.take i ++ l3 ++ l0.drop j).flatMap fun x => [Value.int .i64 x] := by rw [ht', ed, hcur, hvs0, List.flatMap_append, List.flatMap_append]
    have close : ∀ (v0 : Value) (w' : World) (cur' : Array Value), v0 = .slice (some ⟨g, 0, none⟩) (i + l3.length + (l0.length - j)) cap → i + l3.length + (l0.length - j) ≤ cap → w'.heap[g]? = some (.cells cur' 47 (0, 0)) → cur'.size = cap → cur'.toList.take (i + l3.length + (l0.length - j)) = cur.toList.take i ++ vs ++ (cur.toList.take l0.length).drop j → Kd.R (Kd.int .i64) 47 w' w0.heap.size (fun k_ => (P0_ k_ ∨ w.heap.size ≤ k_)) v0 (l0.take i ++ l3 ++ l0.drop j) := by
      rintro v0 w' cur' rfl hroom k1 k2 k3
      refine (R_iff F).2 ⟨fun k hk => ?_, by rw [flatMap_length F], .inr ⟨g, cap, cur', by rw [hlr], hb, k1, by rw [hlr]; omega, hm, by rw [k2]; exact (Nat.mul_one _).symm, ?_⟩⟩
      · have : g = k := by simpa [Value.ownBlock] using hk
        subst this
        exact .inl hP
      · rw [hlr, ← hval, ← k3]
        congr 1
        exact Nat.mul_one _
    by_cases hje : j = l0.length
    · subst hje
      have hd0 : l0.drop l0.length = [] := List.drop_length
      obtain ⟨i0, hi0, hz0, hz1, hzb⟩ := info_parts info47
      by_cases hfit : l0.length ≤ i + l3.length
      · have hownI : w.ownsRow w0.heap.size 47 1 (.slice (some ⟨g, 0, none⟩) i cap) i ((l0.take i).flatMap fun x => [Value.int .i64 x]) :=
          ⟨by rw [el]; simp; omega, .inr ⟨g, cap, cur, rfl, hb, hg, by omega, hm, hs, by rw [Nat.mul_one]; exact hcur⟩⟩
        obtain ⟨v', w1, hr, ho1, hg1, hb1⟩ := run_append_own_x w 24 24 24 47 i0 _ 1 8 Try.underlying24 Try.underlying24 hi0 hz0 hz1 hzb rfl (by decide) (by decide) w0.heap.size (.slice (some ⟨g, 0, none⟩) i cap) i _ hownI ⟨vb, vo, none⟩ l3.length c3 vs (by rw [hvl]; omega) (fun j u hj => by rw [add_lit']; exact hvs j u hj) h1v (by omega) hB.size
        have hR : Kd.R (Kd.int .i64) 47 w1 w0.heap.size (fun k_ => (P0_ k_ ∨ w.heap.size ≤ k_)) v' (l0.take i ++ l3 ++ l0.drop l0.length) := by
          rw [hd0, List.append_nil]
          refine (R_iff F).2 ⟨fun k hk => ?_, ?_⟩
          · rcases hb1 with hb1 | ⟨b, hb1, hb2⟩
            · have : g = k := by rw [hb1] at hk; simpa [Value.ownBlock] using hk
              exact .inl (this ▸ hP)
            · rw [hb1] at hk
              obtain rfl := Option.some.inj hk
              exact .inr hb2
          · rw [List.flatMap_append, ← hvs0, show (l0.take i ++ l3).length = i + l3.length by simp; omega]
            exact ho1
        obtain ⟨A', c', rfl⟩ : ∃ A' c', v' = .slice A' (i + l3.length) c' := by
          rcases ho1.2 with ⟨_, h0⟩ | ⟨g', cap', _, h0, _⟩
          · omega
          · exact ⟨_, _, h0⟩
        refine (ref_Ref_113.end1 g l0.length cap i (some ⟨vb, vo, none⟩) A' l3.length c3 c' w w1 hn hm' hij hfit hr).mono ?_
        rintro e w' ⟨rfl, rfl⟩
        exact ⟨_, rfl, hR, hB.grown hg1 hB.size (own_base hownI), Kept.of_grown hg1 (Kept.refl _ _) (fun k hk => .inl (by have hgk : g = k := (by simpa [Value.ownBlock] using hk); exact hgk ▸ hP))⟩
      · have hr := run_append_room_src (P := Try.prog) (w := w) 24 24 24 47 i0 Try.underlying24 hi0 g 0 i cap (.slice (some ⟨vb, vo, none⟩) l3.length c3) l3.length vs (by rw [hz1]; exact Src.ofSlice w Try.underlying24 ⟨vb, vo, none⟩ l3.length c3 vs (by rw [hvl]; omega) (fun j u hj => by rw [add_lit']; exact hvs j u hj) h1v) (by omega) (fun k hk => cells_some hg (by rw [hz1]; omega)) (fun k _ => cells_free hg _)
        rw [hz1, Nat.mul_one, Nat.zero_add] at hr
        obtain ⟨cur1, g1, g2, g3⟩ := setCells_heap_at g vs i w cur 47 (0, 0) hg (by omega)
        obtain ⟨cur3, l1, l2, l3'⟩ := setCells_heap_at g (Builtin.zeroCells (Value.int .i64 0).cells (l0.length - (i + l3.length))).toList (i + l3.length) (w.setCells g i vs) cur1 47 (0, 0) g1 (by rw [zeroCells_len]; simp [Value.cells]; omega)
        refine (ref_Ref_113.end2 g l0.length cap i (some ⟨vb, vo, none⟩) l3.length c3 w _ _ hn hm' hij (by omega) hr (fun ty c => run_clear_cells (w.setCells g i vs) 24 47 ty (.int .i64 0) Try.underlying24 Try.zeroValue47 g _ _ c (by omega) (zeroCells_one _ _ (by simp [Value.cells, Value.oneCell'])) (fun t ht => cells_some g1 (by rw [zeroCells_len] at ht; simp [Value.cells] at ht; omega)) (fun t _ => cells_free g1 _))).mono ?_
        rintro e w' ⟨rfl, rfl⟩
        refine ⟨_, rfl, close _ _ cur3 (by rw [Nat.sub_self, Nat.add_zero]) (by omega) l1 (by omega) ?_, bel_setCells (bel_setCells hB hb _ _) hb _ _, kep_setCells (kep_setCells (Kept.refl w _) hP _ _) hP _ _⟩
        rw [Nat.sub_self, Nat.add_zero, l3', List.append_assoc, List.take_append_of_le_length (by simp; omega), List.take_take, Nat.min_self, List.drop_of_length_le (i := l0.length) (by simp; omega), List.append_nil, g3]
        exact List.take_left' (by simp; omega)
    · have hj : j < l0.length := by omega
      by_cases hroom : i + l3.length + (l0.length - j) ≤ cap
      · have hlow : Calls Try.prog 113 #[.slice (some ⟨g, 0, none⟩) l0.length cap, .int .i64 i, .int .i64 j, .slice (some ⟨vb, vo, none⟩) l3.length c3] w fun e w' => e = .returned (.slice (some ⟨g, 0, none⟩) (i + l3.length + (l0.length - j)) cap) ∧
            (∃ cur', w'.heap[g]? = some (.cells cur' 47 (0, 0)) ∧ cur'.size = cap ∧ cur'.toList.take (i + l3.length + (l0.length - j)) = cur.toList.take i ++ vs ++ (cur.toList.take l0.length).drop j) ∧ (∀ B, B ≤ g → ∀ w0, Below B w0 w → Below B w0 w') ∧ Kept w w' (fun k => k = g) := by
          by_cases hfit : i + l3.length ≤ j
          · exact ref_Ref_113.fits g l0.length cap i j cur w hg hs' hn hm' hones vb vo l3.length c3 vs hvl hvs h1v hm0 hvb hj hfit
          · exact ref_Ref_113.spread g l0.length cap i j cur w hg hs' hn hm' hones vb vo l3.length c3 vs hvl hvs h1v hm0 hvb hij hj (by omega) hroom
        refine hlow.mono ?_
        rintro e w' ⟨rfl, ⟨cur', k1, k2, k3⟩, k4, k5⟩
        exact ⟨_, rfl, close _ _ cur' rfl hroom k1 k2 k3, k4 _ hb w0 hB, ⟨k5.1, fun k hk hn => k5.2 k hk (fun e => hn (e ▸ hP))⟩⟩
      · refine (ref_Ref_113.grow g l0.length cap i j cur w hg hs' hn hm' hones vb vo l3.length c3 vs hvl hvs h1v hm0 hij hj (by omega) (by omega)).mono ?_
        rintro e w' ⟨G, rfl, q1, q2, ⟨cur', k1, k2, k3⟩, k4, k5⟩
        refine ⟨_, rfl, (R_iff F).2 ⟨fun k hk => ?_, by rw [flatMap_length F], .inr ⟨w.heap.size, G, cur', by rw [hlr], hB.size, k1, by rw [hlr]; omega, q2, by rw [k2]; exact (Nat.mul_one _).symm, ?_⟩⟩, k4 _ hB.size w0 hB, ⟨k5.1, fun k hk _ => k5.2 k hk (fun h => h)⟩⟩
        · have : w.heap.size = k := by simpa [Value.ownBlock] using hk
          subst this
          exact .inr (Nat.le_refl _)
        · rw [hlr, ← hval, ← k3]
          congr 1
          exact Nat.mul_one _
  · cases h

end Go.Proofs.Ytkoiffkonjpoiaa.Q
namespace Go.Proofs.Ytkoiffkonjpoiaa.Q
open Go.RowKit Go.Proofs.YtkoiffkonjpoiaaW.PrintWords Go.Proofs.YtkoiffkonjpoiaaW.PrintLast Go.Proofs.YtkoiffkonjpoiaaW.PrintMore Go.Proofs.YtkoiffkonjpoiaaX
attribute [local go_sem] max2_int min2_int max_two min_two max_three min_three max_four min_four   -- for this text's walks alone
set_option linter.unusedVariables false
set_option linter.unusedSimpArgs false

/-- With some elements put in ahead of element a1. -/
def slices_Insert_int64_int64.f (l0 : List Int) (a1 : Int) (l2 : List Int) : Option (List Int) := if 0 ≤ a1 ∧ a1 ≤ (l0.length : Int) ∧ l0.length + l2.length < 17592186044416 then some (l0.take a1.toNat ++ l2 ++ l0.drop a1.toNat) else none
set_option maxHeartbeats 4000000 in
set_option maxRecDepth 100000 in
theorem slices_Insert_int64_int64.shift (g n cap i : Nat) (cur : Array Value) (w : World) (hg : w.heap[g]? = some (.cells cur 2 (0, 0))) (hsz : cur.size = (cap)) (hm : cap ≤ 9223372036854775807) (h1c : ∀ u ∈ cur.toList.take (n), u.oneCell' = true)
    (vb vo m vc : Nat) (vs : List Value) (hvl : vs.length = (m)) (hvs : ∀ j u, vs[j]? = some u → w.cell? ⟨vb, vo + j, none⟩ = some u) (h1v : ∀ u ∈ vs, u.oneCell' = true) (hm0 : 0 < m) (hvb : vb ≠ g)
    (hi : i < n) (hroom : n + m ≤ cap) :
    Calls Try.prog 114 #[.slice (some ⟨g, 0, none⟩) n cap, .int .i64 i, .slice (some ⟨vb, vo, none⟩) m vc] w fun e w' => e = .returned (.slice (some ⟨g, 0, none⟩) (n + m) cap) ∧ w' = (w.drew.setCells g (i + m) ((cur.toList.take (n)).drop (i))).setCells g (i) vs := by
  obtain ⟨i0, hi0, _, hz1, _⟩ := info_parts info2
  have hz1' : ¬ ((m : Int) = 0) := by omega
  have hz2 : ¬ ((i : Int) = (n : Int)) := by omega
  obtain ⟨cs, hcs⟩ : ∃ cs, cs = (cur.toList.take (n)).drop (i) := ⟨_, rfl⟩
  have hcl : cs.length = (n - i) := by rw [hcs]; simp; omega
  have h1s : ∀ u ∈ cs, u.oneCell' = true := fun u hu => h1c u (List.mem_of_mem_drop (hcs ▸ hu))
  rw [← hcs]
  have hv0 : ∃ u, vs[0]? = some u := ⟨_, List.getElem?_eq_getElem (by omega)⟩
  obtain ⟨u0, hu0⟩ := hv0
  have hc0 := hvs 0 u0 hu0
  obtain ⟨cA, tA, fA, hA, hA0⟩ : ∃ cA tA fA, w.heap[vb]? = some (.cells cA tA fA) ∧ cA.size ≠ 0 := by
    unfold World.cell? at hc0
    split at hc0
    · rename_i c t f h
      refine ⟨c, t, f, h, ?_⟩
      simp at hc0
      intro h0
      rw [Array.getElem?_eq_none (by omega)] at hc0
      cases hc0
    · cases hc0
  have hov : ∀ lb cb, (callFunc 131 #[.slice (some ⟨vb, vo, none⟩) m vc, .slice (some ⟨g, (i + m), none⟩) lb cb]).run Try.prog w = .ok (.value (.bool false)) w := fun lb cb => by
    rw [run_callFunc_extern Try.func131 (by kernel_rfl) (by kernel_rfl) (by kernel_rfl) (e := Extern.SlicesOverlaps.overlaps #[22, 22] #[4]) (by kernel_rfl),
      run_overlaps_x w 22 4 2 Try.underlying22 1 Try.sizeOf2 ⟨vb, vo, none⟩ ⟨g, (i + m), none⟩ m vc lb cb hvb tA 2 cA.size cur.size (by simp [World.shape?, hA]) (by simp [World.shape?, hg]) (by omega) hA0 (fun k => cells_free hg k) rfl]
    rfl
  have hcp1 : ∀ ty dc sc, (Builtin.copy_ #[22, 22] ty #[.slice (some ⟨g, (i + m), none⟩) (n + m - (i + m)) dc, .slice (some ⟨g, (i), none⟩) (n + m - i) sc]).run Try.prog w.drew = .ok (goInt (n - i : Nat)) (w.drew.setCells g (i + m) cs) := fun ty dc sc => by
    have hmin : Nat.min (n + m - i) (n + m - (i + m)) = n - i := by simp only [Nat.min_def]; split <;> omega
    have := run_copy_K (P := Try.prog) w.drew 22 22 ty 2 i0 g (i + m) (n + m - (i + m)) dc ⟨g, (i), none⟩ (n + m - i) sc cs Try.underlying22 hi0 (by rw [hmin, hcl, hz1] <;> omega)
      (fun j u hj => by
        rw [add_lit']
        show w.cell? _ = _
        rw [cells_cell hg]
        rw [hcs, List.getElem?_drop, List.getElem?_take] at hj
        split at hj
        · exact hj
        · cases hj)
      (fun j hj => cells_some (w := w) hg (by rw [hcl] at hj; omega)) (fun j _ => cells_free (w := w) hg _) h1s
    rw [hmin] at this
    exact this
  obtain ⟨W1, hW1⟩ : ∃ W1, W1 = w.drew.setCells g (i + m) cs := ⟨_, rfl⟩
  obtain ⟨cur1, g1, g2, _⟩ := setCells_heap_at g cs (i + m) w.drew cur 2 (0, 0) hg (by rw [hcl, hsz]; omega)
  have gv : W1.heap[vb]? = w.heap[vb]? := by rw [hW1]; exact setCells_heap_ne g cs _ w.drew vb hvb
  rw [← hW1] at g1
  have hcp2 : ∀ (W : World), (∀ x, W.cell? x = W1.cell? x) → (∀ x, W.frozen? x = W1.frozen? x) → ∀ ty dc, (Builtin.copy_ #[22, 22] ty #[.slice (some ⟨g, (i), none⟩) (n + m - i) dc, .slice (some ⟨vb, vo, none⟩) m vc]).run Try.prog W = .ok (goInt (m : Nat)) (W.setCells g (i) vs) := fun W hWc hWf ty dc => by
    have hmin : Nat.min m (n + m - i) = m := by simp only [Nat.min_def]; split <;> omega
    have := run_copy_K (P := Try.prog) W 22 22 ty 2 i0 g (i) (n + m - i) dc ⟨vb, vo, none⟩ m vc vs Try.underlying22 hi0 (by rw [hmin, hvl, hz1] <;> omega)
      (fun j u hj => by
        rw [add_lit', hWc]
        have := hvs j u hj
        simp only [World.cell?] at this ⊢
        rw [gv]
        exact this)
      (fun j hj => by rw [hWc]; exact cells_some g1 (by rw [hvl] at hj; omega)) (fun j _ => by rw [hWf]; exact cells_free g1 _) h1v
    rw [hmin] at this
    exact this
  rw [← hW1] at hcp1
  have hw1 : IntKind.i64.wrap ((i : Int) + (m : Int)) = (i : Int) + (m : Int) := by rw [IntKind.wrap_i64]; omega
  have hb1 : (0 : Int) ≤ (i : Int) + (m : Int) := by omega
  have hin : i ≤ n := by omega
  have htn : ((i : Int) + (m : Int)).toNat = i + m := by omega
  have hb2 : ¬ (cap = i + m) := by omega
  have hb3 : (i : Int) ≤ (n : Int) + (m : Int) := by omega
  have hb4 : ¬ (cap = i) := by omega
  have HW := Lib.hid hW1
  rw [← hW1]
  clear hW1 hcs hcl h1s hu0 hc0 hA hA0 g1 g2 gv hg hsz h1c hvl hvs h1v hvb
  go_enter Try.func114, Try.ntmps114
  go_wp2_with (simp only [hov])
  go_region_law (refine stepx_copy rfl _ _ 22 22 rfl _ _ (by simp [Act.eval, Act.put]) (by simp [Act.eval, Act.put]) (hcp1 _ _ _) ?_)
  go_wp2_with (at_builtin; refine wpx_copy _ rfl _ _ 22 22 rfl _ _ rfl rfl (hcp2 _ (fun _ => rfl) (fun _ => rfl) _ _) ?_)
  go_ret
  exact ⟨rfl, rfl⟩
set_option maxHeartbeats 4000000 in
set_option maxRecDepth 100000 in
theorem slices_Insert_int64_int64.grow (g n cap i : Nat) (cur : Array Value) (w : World) (hg : w.heap[g]? = some (.cells cur 2 (0, 0))) (hsz : cur.size = (cap)) (hn : n ≤ cap) (h1c : ∀ u ∈ cur.toList.take (n), u.oneCell' = true)
    (vb vo m vc : Nat) (vs : List Value) (hvl : vs.length = (m)) (hvs : ∀ j u, vs[j]? = some u → w.cell? ⟨vb, vo + j, none⟩ = some u) (h1v : ∀ u ∈ vs, u.oneCell' = true) (hm0 : 0 < m)
    (hi : i < n) (hroom : cap < n + m) (hbig : (n + m) * 8 ≤ 140737488355328) :
    Calls Try.prog 114 #[.slice (some ⟨g, 0, none⟩) n cap, .int .i64 i, .slice (some ⟨vb, vo, none⟩) m vc] w fun e w' => ∃ (G : Nat) (ROW : Array Value), n + m ≤ G ∧ G ≤ maxLen ∧ ROW.size = (G) ∧ ROW.toList.take (i) = (cur.toList.take (n)).take (i) ∧ e = .returned (.slice (some ⟨w.heap.size, 0, none⟩) (n + m) G) ∧ w' = ((w.drew.alloc (.cells ROW 2)).setCells w.heap.size (i) vs).drew.setCells w.heap.size (i + m) ((cur.toList.take (n)).drop (i)) := by
  obtain ⟨i0, hi0, hz0, hz1, hzb⟩ := info_parts info2
  have hz1' : ¬ ((m : Int) = 0) := by omega
  have hz2 : ¬ ((i : Int) = (n : Int)) := by omega
  have hz3 : (cap : Int) < (n : Int) + (m : Int) := by omega
  have hgw : g < w.heap.size := (Array.getElem?_eq_some_iff.1 hg).1
  have hvw : vb < w.heap.size := World.block_lt_of_cell? w _ (hvs 0 _ (List.getElem?_eq_getElem (by omega)))
  obtain ⟨cs, hcs⟩ : ∃ cs, cs = cur.toList.take (n) := ⟨_, rfl⟩
  have hcl : cs.length = (n) := by rw [hcs]; simp; omega
  have hcc : ∀ j u, cs[j]? = some u → w.cell? ⟨g, j, none⟩ = some u := fun j u hj => by
    rw [cells_cell hg]
    rw [hcs, List.getElem?_take] at hj
    split at hj
    · exact hj
    · cases hj
  rw [← hcs] at h1c ⊢
  have hkk : (n : Int) + (m : Int) - (i : Int) = ((n + m - i : Nat) : Int) := by omega
  have hik : i + (n + m - i) = n + m := by omega
  have hold : (Builtin.firstCells i0.size i (.slice (some ⟨g, 0, none⟩) i cap)).run Try.prog w.drew = .ok (cs.take (i)).toArray w.drew := by
    rw [hz1]
    exact run_firstCells_some w.drew 1 i ⟨g, 0, none⟩ i cap (cs.take (i)) (by rw [List.length_take]; omega) (fun j v hj => by
      rw [add_lit', Nat.zero_add]
      rw [List.getElem?_take] at hj
      split at hj
      · exact hcc j v hj
      · cases hj)
  have hG63 : grownCap w (n + m) cap 2 ≤ maxLen := grownCap_le_maxLen w (n + m) cap 2 (by unfold maxLen; omega)
  have hrz : ∀ ty, (Builtin.append_ #[22, 3] ty #[.slice (some ⟨g, 0, none⟩) i cap, .int .i64 ((n : Int) + (m : Int) - (i : Int))]).run Try.prog w =
      .ok (.slice (some ⟨w.heap.size, 0, none⟩) (n + m) (grownCap w (n + m) cap 2)) (w.drew.alloc (.cells ((cs.take (i)).toArray ++ Builtin.zeroCells (Value.int .i64 0).cells (n + m - i) ++ Builtin.zeroCells (Value.int .i64 0).cells (grownCap w (n + m) cap 2 - (n + m))) 2)) := fun ty => by
    have h := Lib.run_append_grow_zeros w 22 3 ty 2 i0 _ .i64 .i64 Try.underlying22 Try.underlying3 hi0 hz0 (some ⟨g, 0, none⟩) i cap (cs.take (i)) hold (n + m - i) (by omega) (by omega) (by omega) (by omega) (by rw [hzb]; omega) (by rw [hzb, hik]; exact growslice_fits hroom hbig)
    rw [hik] at h
    rw [hkk]
    exact h
  have hGn : n + m ≤ grownCap w (n + m) cap 2 := grownCap_ge w _ _ _
  generalize grownCap w (n + m) cap 2 = G at hrz hG63 hGn
  have hG63' : G ≤ 9223372036854775807 := by unfold maxLen at hG63; omega
  obtain ⟨ROW, hROW⟩ : ∃ ROW : Array Value, ROW = (cs.take (i)).toArray ++ Builtin.zeroCells (Value.int .i64 0).cells (n + m - i) ++ Builtin.zeroCells (Value.int .i64 0).cells (G - (n + m)) := ⟨_, rfl⟩
  rw [← hROW] at hrz
  have hRs : ROW.size = (G) := by
    rw [hROW]
    simp [Builtin.zeroCells, Value.cells, hcl]
    omega
  have hRt : ROW.toList.take (i) = cs.take (i) := by
    rw [hROW]
    simp only [Array.toList_append, List.append_assoc]
    exact List.take_left' (by rw [List.length_take, hcl]; omega)
  obtain ⟨W1, hW1⟩ : ∃ W1, W1 = w.drew.alloc (.cells ROW 2) := ⟨_, rfl⟩
  have hN : ∀ j, j < (n + m) → (W1.cell? ⟨w.heap.size, j, none⟩).isSome = true := fun j hj => by
    rw [hW1, World.cell?_alloc_at (w := w.drew) ROW _ w.heap.size j rfl, Array.getElem?_eq_getElem (by rw [hRs]; omega)]; rfl
  have hNf : ∀ j, W1.frozen? ⟨w.heap.size, j, none⟩ = false := fun j => by rw [hW1]; exact World.frozen?_alloc_at (w := w.drew) ROW _ w.heap.size j rfl
  have hOb : ∀ j v, w.cell? ⟨g, j, none⟩ = some v → W1.cell? ⟨g, j, none⟩ = some v := fun j v h => by rw [hW1, World.cell?_alloc_past (w := w.drew) _ g j hgw]; exact h
  have hOv : ∀ j v, w.cell? ⟨vb, j, none⟩ = some v → W1.cell? ⟨vb, j, none⟩ = some v := fun j v h => by rw [hW1, World.cell?_alloc_past (w := w.drew) _ vb j hvw]; exact h
  have hcpA : ∀ (W : World), (∀ x, W.cell? x = W1.cell? x) → (∀ x, W.frozen? x = W1.frozen? x) → ∀ ty dc, (Builtin.copy_ #[22, 22] ty #[.slice (some ⟨w.heap.size, (i), none⟩) (n + m - i) dc, .slice (some ⟨vb, vo, none⟩) m vc]).run Try.prog W = .ok (goInt (m : Nat)) (W.setCells w.heap.size (i) vs) := fun W hWc hWf ty dc => by
    have hmin : Nat.min m (n + m - i) = m := by simp only [Nat.min_def]; split <;> omega
    have := run_copy_K (P := Try.prog) W 22 22 ty 2 i0 w.heap.size (i) (n + m - i) dc ⟨vb, vo, none⟩ m vc vs Try.underlying22 hi0 (by rw [hmin, hvl, hz1] <;> omega)
      (fun j v hj => by rw [add_lit', hWc]; exact hOv _ v (hvs j v hj))
      (fun j hj => by rw [hWc]; exact hN _ (by omega)) (fun j hj => by rw [hWf]; exact hNf _) h1v
    rw [hmin] at this
    exact this
  have hGi : ¬ (G = i) := by omega
  have hGim : ¬ (G = i + m) := by omega
  have hci : ¬ (cap = i) := by omega
  have hgN : g ≠ w.heap.size := by omega
  have hdl : (cs.drop (i)).length = (n - i) := by rw [List.length_drop, hcl] <;> omega
  have hout : ∀ k, ((W1.setCells w.heap.size (i) vs).cell? ⟨g, k, none⟩) = W1.cell? ⟨g, k, none⟩ := fun k => World.cell?_setCells_out _ _ _ _ _ (fun h _ => absurd h hgN)
  obtain ⟨cur1, g1, g2, _⟩ := setCells_heap_at w.heap.size vs (i) W1 ROW 2 (0, 0) (by rw [hW1]; exact heap_alloc_new w.drew _) (by rw [hvl, hRs] <;> omega)
  have hcpB : ∀ (W : World), (∀ x, W.cell? x = (W1.setCells w.heap.size (i) vs).cell? x) → (∀ x, W.frozen? x = (W1.setCells w.heap.size (i) vs).frozen? x) → ∀ ty dc sc, (Builtin.copy_ #[22, 22] ty #[.slice (some ⟨w.heap.size, (i + m), none⟩) (n + m - (i + m)) dc, .slice (some ⟨g, (i), none⟩) (n - i) sc]).run Try.prog W = .ok (goInt (n - i : Nat)) (W.setCells w.heap.size (i + m) (cs.drop (i))) := fun W hWc hWf ty dc sc => by
    have hmin : Nat.min (n - i) (n + m - (i + m)) = n - i := by simp only [Nat.min_def]; split <;> omega
    have := run_copy_K (P := Try.prog) W 22 22 ty 2 i0 w.heap.size (i + m) (n + m - (i + m)) dc ⟨g, (i), none⟩ (n - i) sc (cs.drop (i)) Try.underlying22 hi0 (by rw [hmin, hdl, hz1] <;> omega)
      (fun j v hj => by
        rw [add_lit', hWc, hout]
        exact hOb _ v (hcc _ v (by rwa [List.getElem?_drop] at hj)))
      (fun j hj => by rw [hWc]; exact cells_some g1 (by rw [hdl] at hj; rw [g2, hRs] <;> omega))
      (fun j hj => by rw [hWf]; exact cells_free g1 _) (fun v hv => h1c v (List.mem_of_mem_drop hv))
    rw [hmin] at this
    exact this
  subst hW1
  have hE1 : ∀ x, ((w.alloc (.cells ROW 2)).drew).cell? x = (w.drew.alloc (.cells ROW 2)).cell? x := fun x => rfl
  have hE2 : ∀ x, ((w.alloc (.cells ROW 2)).drew).frozen? x = (w.drew.alloc (.cells ROW 2)).frozen? x := fun x => rfl
  have hF1 : ∀ x, (((w.alloc (.cells ROW 2)).drew.setCells w.heap.size (i) vs).drew).cell? x = ((w.drew.alloc (.cells ROW 2)).setCells w.heap.size (i) vs).cell? x := fun x => rfl
  have hF2 : ∀ x, (((w.alloc (.cells ROW 2)).drew.setCells w.heap.size (i) vs).drew).frozen? x = ((w.drew.alloc (.cells ROW 2)).setCells w.heap.size (i) vs).frozen? x := fun x => rfl
  have hw1 : IntKind.i64.wrap ((i : Int) + (m : Int)) = (i : Int) + (m : Int) := by rw [IntKind.wrap_i64]; omega
  have hb1 : (0 : Int) ≤ (i : Int) + (m : Int) := by omega
  have hin : i ≤ n := by omega
  have htn : ((i : Int) + (m : Int)).toNat = i + m := by omega
  have hb3 : (i : Int) ≤ (n : Int) := by omega
  obtain ⟨Fin, hFin⟩ : ∃ Fin : Ending → World → Prop, Fin = fun e w' => ∃ (G : Nat) (ROW : Array Value), n + m ≤ G ∧ G ≤ maxLen ∧ ROW.size = (G) ∧ ROW.toList.take (i) = cs.take (i) ∧ e = .returned (.slice (some ⟨w.heap.size, 0, none⟩) (n + m) G) ∧ w' = ((w.drew.alloc (.cells ROW 2)).setCells w.heap.size (i) vs).drew.setCells w.heap.size (i + m) (cs.drop (i)) := ⟨_, rfl⟩
  have hdone : Hid (Fin (.returned (.slice (some ⟨w.heap.size, 0, none⟩) (n + m) G)) (((w.drew.alloc (.cells ROW 2)).setCells w.heap.size (i) vs).drew.setCells w.heap.size (i + m) (cs.drop (i)))) := Lib.hid (by rw [hFin]; exact ⟨G, ROW, hGn, hG63, hRs, hRt, rfl, rfl⟩)
  rw [← hFin]
  clear hkk hik hold hROW hRs hRt hFin hN hNf hOb hOv hout g1 g2 hcl hcc hcs hdl hvs hvl hsz hg h1c h1v hG63
  go_enter Try.func114, Try.ntmps114
  go_wp2_with (first
    | (at_builtin; refine Lib.wpList_append_run _ rfl _ _ _ _ rfl _ _ rfl rfl _ _ (hrz _) ?_)
    | (at_builtin; refine wpx_copy _ rfl _ _ 22 22 rfl _ _ rfl rfl (hcpA _ hE1 hE2 _ _) ?_)
    | (at_builtin; refine wpx_copy _ rfl _ _ 22 22 rfl _ _ rfl rfl (hcpB _ (fun _ => rfl) (fun _ => rfl) _ _ _) ?_))
  go_region_law (refine stepx_copy rfl _ _ 22 22 rfl (.slice (some ⟨w.heap.size, (i + m), none⟩) (n + m - (i + m)) (G - (i + m))) (.slice (some ⟨g, (i), none⟩) (n - i) (cap - i)) (by simp [Act.eval, Act.put]) (by simp [Act.eval, Act.put]) (hcpB _ hF1 hF2 3 (G - (i + m)) (cap - i)) ?_)
  go_wp2
  exact hdone.out
set_option maxHeartbeats 2000000 in
set_option maxRecDepth 100000 in
theorem slices_Insert_int64_int64.nothing_ (v : Value) (n i : Nat) (A2 : Option Addr) (c2 : Nat) (w : World) (hv : (v = .slice none 0 0 ∧ n = 0) ∨ ∃ g cap, v = .slice (some ⟨g, 0, none⟩) n cap ∧ n ≤ cap ∧ cap ≤ 9223372036854775807) (hi : i ≤ n) :
    Calls Try.prog 114 #[v, .int .i64 i, .slice A2 0 c2] w fun e w' => e = .returned v ∧ w = w' := by
  rcases hv with ⟨rfl, rfl⟩ | ⟨g, cap, rfl, hn, hm⟩
  · obtain rfl : i = 0 := by omega
    go_enter Try.func114, Try.ntmps114
    go_wp2
    go_ret
    exact ⟨rfl, rfl⟩
  · have hic : i ≤ cap := by omega
    go_enter Try.func114, Try.ntmps114
    go_wp2
    all_goals (go_ret; exact ⟨rfl, rfl⟩)
set_option maxHeartbeats 2000000 in
set_option maxRecDepth 100000 in
theorem slices_Insert_int64_int64.end_ (v v' : Value) (n m : Nat) (A2 : Option Addr) (c2 : Nat) (w w1 : World) (hv : (v = .slice none 0 0 ∧ n = 0) ∨ ∃ g cap, v = .slice (some ⟨g, 0, none⟩) n cap ∧ n ≤ cap ∧ cap ≤ 9223372036854775807) (hm0 : 0 < m)
    (hr : (Builtin.append_ #[22, 22] 22 #[v, .slice A2 m c2]).run Try.prog w = .ok v' w1) :
    Calls Try.prog 114 #[v, .int .i64 n, .slice A2 m c2] w fun e w' => e = .returned v' ∧ w' = w1 := by
  have hz1' : ¬ ((m : Int) = 0) := by omega
  have HR := Lib.hid hr
  clear hr
  rcases hv with ⟨rfl, rfl⟩ | ⟨g, cap, rfl, hn, hm⟩
  · go_enter Try.func114, Try.ntmps114
    go_wp2_with (at_builtin; refine Lib.wpList_append_run _ rfl _ _ _ _ rfl _ _ rfl rfl _ _ HR.out ?_)
    go_ret
    exact ⟨rfl, rfl⟩
  · go_enter Try.func114, Try.ntmps114
    go_wp2_with (at_builtin; refine Lib.wpList_append_run _ rfl _ _ _ _ rfl _ _ rfl rfl _ _ HR.out ?_)
    all_goals (go_ret; exact ⟨rfl, rfl⟩)
set_option maxHeartbeats 1000000 in
theorem slices_Insert_int64_int64.calls (P0_ : Nat → Prop) (u9000_ : Value) (l0 : List Int) (a1 : Int) (A2 : Option Addr) (c2 : Nat) (l2 : List Int) (r : List Int) (w0 w : World) (hB : Below w0.heap.size w0 w) (ho0 : Kd.R (Kd.int .i64) 2 w w0.heap.size P0_ u9000_ l0) (hr2 : ∀ W_, Kept w W_ (fun k_ => P0_ k_) → Kd.C (Kd.int .i64) W_ A2 l2.length l2) (hc2 : l2.length ≤ c2) (h : slices_Insert_int64_int64.f l0 a1 l2 = some r) :
    Calls Try.prog 114 #[u9000_, .int .i64 a1, .slice A2 l2.length c2] w fun e w' => ∃ v0_ : Value, e = .returned v0_ ∧ Kd.R (Kd.int .i64) 2 w' w0.heap.size (fun k_ => (P0_ k_ ∨ w.heap.size ≤ k_)) v0_ r ∧ Below w0.heap.size w0 w' ∧ Kept w w' (fun k_ => P0_ k_) := by
  unfold slices_Insert_int64_int64.f at h
  split at h
  · rename_i hc
    obtain ⟨h0, h1, h2⟩ := hc
    obtain rfl := Option.some.inj h
    clear h
    obtain ⟨i, rfl⟩ := Int.eq_ofNat_of_zero_le h0
    rw [Int.toNat_natCast]
    have hil : i ≤ l0.length := by omega
    clear h0 h1
    obtain ⟨hok, hown⟩ := (R_iff (flat_int .i64)).1 ho0
    have hown' : w.ownsRow w0.heap.size 2 1 u9000_ l0.length (l0.flatMap (fun x => [Value.int .i64 x])) := hown
    have hform : (u9000_ = .slice none 0 0 ∧ l0.length = 0) ∨ ∃ g cap, u9000_ = .slice (some ⟨g, 0, none⟩) l0.length cap ∧ l0.length ≤ cap ∧ cap ≤ 9223372036854775807 := by
      rcases hown'.2 with ⟨h1, h2⟩ | ⟨g, cap, cur, h1, _, _, h2, h3, _⟩
      · exact .inl ⟨h1, h2⟩
      · exact .inr ⟨g, cap, h1, h2, by simpa [maxLen] using h3⟩
    rcases List.eq_nil_or_concat l2 with he | ⟨_, _, he⟩
    · subst he
      refine (slices_Insert_int64_int64.nothing_ u9000_ l0.length i A2 c2 w hform hil).mono ?_
      rintro e w' ⟨rfl, rfl⟩
      refine ⟨_, rfl, ?_, hB, Kept.refl _ _⟩
      rw [List.append_nil, List.take_append_drop]
      exact Kd.R_mono ho0 (fun _ hk => .inl hk)
    · have hne : l2 ≠ [] := by rw [he]; simp
      clear he
      have hm0 : 0 < l2.length := List.length_pos_iff.2 hne
      have hlv : (l2.flatMap (fun x => [Value.int .i64 x])).length = l2.length * 1 := flatMap_length (flat_int .i64) l2
      obtain ⟨vb, vo, rfl, hvs⟩ : ∃ b o, A2 = some ⟨b, o, none⟩ ∧ ∀ j u, (l2.flatMap (fun x => [Value.int .i64 x]))[j]? = some u → w.cell? ⟨b, o + j, none⟩ = some u := by
        rcases C_at (flat_int .i64) (hr2 w (Kept.refl _ _)) with h0 | h0
        · rw [h0] at hlv; simp at hlv; omega
        · exact h0
      by_cases hin : i = l0.length
      · subst hin
        obtain ⟨i0, hi0, hz0, hz1, hzb⟩ := info_parts info2
        obtain ⟨v', w1, hr, ho1, hg1, hb1⟩ := run_append_own_x w 22 22 22 2 i0 _ 1 8 Try.underlying22 Try.underlying22 hi0 hz0 hz1 hzb rfl (by decide) (by decide) w0.heap.size u9000_ l0.length (l0.flatMap (fun x => [Value.int .i64 x])) hown' ⟨vb, vo, none⟩ l2.length c2 (l2.flatMap (fun x => [Value.int .i64 x])) hlv (fun j u hj => by rw [add_lit']; exact hvs j u hj) (Flat.ones (flat_int .i64) l2) (by omega) hB.size
        refine (slices_Insert_int64_int64.end_ u9000_ v' l0.length l2.length _ c2 w w1 hform hm0 hr).mono ?_
        rintro e w' ⟨rfl, rfl⟩
        refine ⟨_, rfl, ?_, hB.grown hg1 hB.size (own_base hown'), Kept.of_grown hg1 (Kept.refl _ _) (fun k hk => .inl (hok k hk))⟩
        rw [List.take_length, List.drop_length, List.append_nil]
        refine (R_iff (flat_int .i64)).2 ⟨fun k hk => ?_, by rw [List.length_append, List.flatMap_append]; exact ho1⟩
        rcases hb1 with hb1 | ⟨b, hb1, hb2⟩
        · exact .inl (hok k (hb1 ▸ hk))
        · rw [hb1] at hk
          obtain rfl := Option.some.inj hk
          exact .inr hb2
      · have hi : i < l0.length := by omega
        rcases hown'.2 with ⟨_, h0⟩ | ⟨g, cap, cur, rfl, hb, hg, hn, hm, hs, ht⟩
        · omega
        · have hP : P0_ g := hok g rfl
          have hm' : cap ≤ 9223372036854775807 := by simpa [maxLen] using hm
          have hvb : vb ≠ g := apart_of_kept (flat_int .i64) hP hne hr2
          have hl0 : (l0.flatMap (fun x => [Value.int .i64 x])).length = l0.length * 1 := flatMap_length (flat_int .i64) l0
          have hones : ∀ u ∈ cur.toList.take (l0.length * 1), u.oneCell' = true := by rw [ht]; exact Flat.ones (flat_int .i64) l0
          have hcl : cur.toList.length = cap * 1 := by rw [Array.length_toList]; exact hs
          have hlr : (l0.take i ++ l2 ++ l0.drop i).length = l0.length + l2.length := by simp; omega
          have e1 : (l0.flatMap (fun x => [Value.int .i64 x])).drop (i * 1) = (l0.drop i).flatMap (fun x => [Value.int .i64 x]) := flatMap_drop (flat_int .i64) l0 i
          have e2 : (l0.flatMap (fun x => [Value.int .i64 x])).take (i * 1) = (l0.take i).flatMap (fun x => [Value.int .i64 x]) := flatMap_take (flat_int .i64) l0 i
          have l1 : ((l0.take i).flatMap (fun x => [Value.int .i64 x])).length = i * 1 := by
            have : ((l0.take i).flatMap (fun x => [Value.int .i64 x])).length = (l0.take i).length * 1 := flatMap_length (flat_int .i64) _
            rw [this, List.length_take, Nat.min_eq_left hil]
          have l3 : ((l0.drop i).flatMap (fun x => [Value.int .i64 x])).length = (l0.length - i) * 1 := by
            have : ((l0.drop i).flatMap (fun x => [Value.int .i64 x])).length = (l0.drop i).length * 1 := flatMap_length (flat_int .i64) _
            rw [this, List.length_drop]
          by_cases hroom : l0.length + l2.length ≤ cap
          · have hlow : Calls Try.prog 114 #[.slice (some ⟨g, 0, none⟩) l0.length cap, .int .i64 i, .slice (some ⟨vb, vo, none⟩) l2.length c2] w fun e w' => e = .returned (.slice (some ⟨g, 0, none⟩) (l0.length + l2.length) cap) ∧ w' = (w.drew.setCells g ((i + l2.length) * 1) ((cur.toList.take (l0.length * 1)).drop (i * 1))).setCells g (i * 1) (l2.flatMap (fun x => [Value.int .i64 x])) := by
              have hs' := hs
              have hlv' := hlv
              (try simp only [Nat.mul_one] at hones hs' hlv' ⊢)
              exact slices_Insert_int64_int64.shift g l0.length cap i cur w hg hs' hm' hones vb vo l2.length c2 (l2.flatMap (fun x => [Value.int .i64 x])) hlv' hvs (Flat.ones (flat_int .i64) l2) hm0 hvb hi hroom
            refine hlow.mono ?_
            rintro e w' ⟨rfl, rfl⟩
            rw [ht, e1]
            obtain ⟨cur1, g1, g2, g3⟩ := setCells_heap_at g ((l0.drop i).flatMap (fun x => [Value.int .i64 x])) ((i + l2.length) * 1) w.drew cur 2 (0, 0) hg (by rw [l3, hs]; omega)
            obtain ⟨cur2, k1, k2, k3⟩ := setCells_heap_at g (l2.flatMap (fun x => [Value.int .i64 x])) (i * 1) _ cur1 2 (0, 0) g1 (by rw [hlv, g2, hs]; omega)
            have hcells : cur2.toList.take ((l0.length + l2.length) * 1) = (l0.take i ++ l2 ++ l0.drop i).flatMap (fun x => [Value.int .i64 x]) := by
              have c1 : cur1.toList.take (i * 1) = (l0.take i).flatMap (fun x => [Value.int .i64 x]) := by
                rw [g3, List.append_assoc, List.take_append_of_le_length (by rw [List.length_take, hcl]; omega), List.take_take, Nat.min_eq_left (by omega), ← e2, ← ht, List.take_take, Nat.min_eq_left (by omega)]
              have c2 : (cur1.toList.drop (i * 1 + (l2.flatMap (fun x => [Value.int .i64 x])).length)).take ((l0.length - i) * 1) = (l0.drop i).flatMap (fun x => [Value.int .i64 x]) := by
                rw [hlv, show i * 1 + l2.length * 1 = (i + l2.length) * 1 by omega, g3, List.append_assoc, List.drop_left' (by rw [List.length_take, hcl]; omega)]
                exact List.take_left' l3
              rw [k3, c1, List.flatMap_append, List.flatMap_append, List.take_append, List.take_of_length_le (by rw [List.length_append, l1, hlv]; omega), List.length_append, l1, hlv]
              congr 1
              rw [show (l0.length + l2.length) * 1 - (i * 1 + l2.length * 1) = (l0.length - i) * 1 by omega, ← hlv]
              exact c2
            refine ⟨_, rfl, (R_iff (flat_int .i64)).2 ⟨fun k hk => ?_, by rw [flatMap_length (flat_int .i64)], .inr ⟨g, cap, cur2, by rw [hlr], hb, k1, by rw [hlr]; omega, hm, by rw [k2, g2]; exact hs, by rw [hlr]; exact hcells⟩⟩, ?_, ?_⟩
            · have : g = k := by simpa [Value.ownBlock] using hk
              subst this
              exact .inl hP
            · exact bel_setCells (bel_setCells (below_drew1 hB) hb _ _) hb _ _
            · exact kep_setCells (kep_setCells (Kept.drew (Kept.refl w _)) hP _ _) hP _ _
          · have hlow : Calls Try.prog 114 #[.slice (some ⟨g, 0, none⟩) l0.length cap, .int .i64 i, .slice (some ⟨vb, vo, none⟩) l2.length c2] w fun e w' => ∃ (G : Nat) (ROW : Array Value), l0.length + l2.length ≤ G ∧ G ≤ maxLen ∧ ROW.size = G * 1 ∧ ROW.toList.take (i * 1) = (cur.toList.take (l0.length * 1)).take (i * 1) ∧ e = .returned (.slice (some ⟨w.heap.size, 0, none⟩) (l0.length + l2.length) G) ∧ w' = ((w.drew.alloc (.cells ROW 2)).setCells w.heap.size (i * 1) (l2.flatMap (fun x => [Value.int .i64 x]))).drew.setCells w.heap.size ((i + l2.length) * 1) ((cur.toList.take (l0.length * 1)).drop (i * 1)) := by
              have hs' := hs
              have hlv' := hlv
              (try simp only [Nat.mul_one] at hones hs' hlv' ⊢)
              exact slices_Insert_int64_int64.grow g l0.length cap i cur w hg hs' hn hones vb vo l2.length c2 (l2.flatMap (fun x => [Value.int .i64 x])) hlv' hvs (Flat.ones (flat_int .i64) l2) hm0 hi (by omega) (by omega)
            refine hlow.mono ?_
            rintro e w' ⟨G, ROW, q1, q2, q3, q4, rfl, rfl⟩
            rw [ht, e2] at q4
            rw [ht, e1]
            obtain ⟨cur1, g1, g2, g3⟩ := setCells_heap_at w.heap.size (l2.flatMap (fun x => [Value.int .i64 x])) (i * 1) (w.drew.alloc (.cells ROW 2)) ROW 2 (0, 0) (heap_alloc_new w.drew _) (by rw [hlv, q3]; omega)
            obtain ⟨cur2, k1, k2, k3⟩ := setCells_heap_at w.heap.size ((l0.drop i).flatMap (fun x => [Value.int .i64 x])) ((i + l2.length) * 1) (World.setCells (w.drew.alloc (.cells ROW 2)) w.heap.size (i * 1) (l2.flatMap (fun x => [Value.int .i64 x]))).drew cur1 2 (0, 0) g1 (by rw [l3, g2, q3]; omega)
            have hcells : cur2.toList.take ((l0.length + l2.length) * 1) = (l0.take i ++ l2 ++ l0.drop i).flatMap (fun x => [Value.int .i64 x]) := by
              have c1 : cur1.toList.take ((i + l2.length) * 1) = (l0.take i).flatMap (fun x => [Value.int .i64 x]) ++ l2.flatMap (fun x => [Value.int .i64 x]) := by
                rw [g3, q4]
                exact List.take_left' (by rw [List.length_append, l1, hlv]; omega)
              rw [k3, c1, List.flatMap_append, List.flatMap_append]
              exact List.take_left' (by rw [List.length_append, List.length_append, l1, hlv, l3]; omega)
            have hbN : Below w0.heap.size w0 (w.drew.alloc (.cells ROW 2)) := below_alloc (below_drew1 hB) _
            have hkN : Kept w (w.drew.alloc (.cells ROW 2)) (fun k_ => P0_ k_ ∨ w.heap.size ≤ k_) := Kept.alloc (Kept.drew (Kept.refl w _)) _
            refine ⟨_, rfl, (R_iff (flat_int .i64)).2 ⟨fun k hk => ?_, by rw [flatMap_length (flat_int .i64)], .inr ⟨w.heap.size, G, cur2, by rw [hlr], hB.size, k1, by rw [hlr]; omega, q2, by rw [k2, g2]; exact q3, by rw [hlr]; exact hcells⟩⟩, ?_, ?_⟩
            · have : w.heap.size = k := by simpa [Value.ownBlock] using hk
              subst this
              exact .inr (Nat.le_refl _)
            · exact bel_setCells (below_drew1 (bel_setCells hbN hB.size _ _)) hB.size _ _
            · have hk2 := kep_setCells (Kept.drew (kep_setCells hkN (b := w.heap.size) (.inr (Nat.le_refl _)) (i * 1) (l2.flatMap (fun x => [Value.int .i64 x])))) (b := w.heap.size) (.inr (Nat.le_refl _)) ((i + l2.length) * 1) ((l0.drop i).flatMap (fun x => [Value.int .i64 x]))
              exact ⟨hk2.1, fun k hk hn => hk2.2 k hk (fun h => h.elim hn (fun h => by omega))⟩
  · cases h

end Go.Proofs.Ytkoiffkonjpoiaa.Q
namespace Go.Proofs.Ytkoiffkonjpoiaa.Q
open Go.RowKit Go.Proofs.YtkoiffkonjpoiaaW.PrintWords Go.Proofs.YtkoiffkonjpoiaaW.PrintLast Go.Proofs.YtkoiffkonjpoiaaW.PrintMore Go.Proofs.YtkoiffkonjpoiaaX
attribute [local go_sem] max2_int min2_int max_two min_two max_three min_three max_four min_four   -- for this text's walks alone
set_option linter.unusedVariables false
set_option linter.unusedSimpArgs false

def inner_Inner_Absorb.j0 : Nat → Int → Bool → List Int → List Int → List Int → List Int → Option (List Int × List Int)
  | 0, _, _, _, _, _, _ => none
  | k + 1, x1, x18, x1049000, x1049001, x1057000, x1057001 => if x18 = true then (some (x1057000, x1057001)) else ((ref_Ref_113.f x1057001 x1 (wrap64 (x1 + 1)) x1049001).bind fun t1059 => ((slices_Insert_int64_int64.f x1057000 x1 x1049000).bind fun t1062 => (some (t1062, t1059))))
def inner_Inner_Absorb.f (k : Nat) (l0_0 : List Int) (l0_1 : List Int) (a1 : Int) (l2_0 : List Int) (l2_1 : List Int) : Option (List Int × List Int) := (inner_Inner_clone.f l0_0 l0_1).bind fun bt1050 => ((inner_Inner_in.f l0_0 l0_1 a1).bind fun t1057 => (if t1057 = true then ((inner_Inner_right.f l2_0 l2_1).bind fun t1058 => (inner_Inner_Absorb.j0 k a1 (!t1058) l2_0 l2_1 bt1050.1 bt1050.2)) else (inner_Inner_Absorb.j0 k a1 true l2_0 l2_1 bt1050.1 bt1050.2)))
set_option maxHeartbeats 8000000 in
set_option maxRecDepth 100000 in
theorem inner_Inner_Absorb.calls (k : Nat) (A0_0 : Option Addr) (c0_0 : Nat) (l0_0 : List Int) (A0_1 : Option Addr) (c0_1 : Nat) (l0_1 : List Int) (a1 : Int) (A2_0 : Option Addr) (c2_0 : Nat) (l2_0 : List Int) (A2_1 : Option Addr) (c2_1 : Nat) (l2_1 : List Int) (r1 : List Int) (r2 : List Int) (w : World) (hr0_0 : Kd.C (Kd.int .i64) w A0_0 l0_0.length l0_0) (hc0_0 : l0_0.length ≤ c0_0) (hr0_1 : Kd.C (Kd.int .i64) w A0_1 l0_1.length l0_1) (hc0_1 : l0_1.length ≤ c0_1) (hr2_0 : Kd.C (Kd.int .i64) w A2_0 l2_0.length l2_0) (hc2_0 : l2_0.length ≤ c2_0) (hr2_1 : Kd.C (Kd.int .i64) w A2_1 l2_1.length l2_1) (hc2_1 : l2_1.length ≤ c2_1) (h : inner_Inner_Absorb.f k l0_0 l0_1 a1 l2_0 l2_1 = some (r1, r2)) :
    Calls Try.prog 77 #[.agg #[.slice A0_0 l0_0.length c0_0, .slice A0_1 l0_1.length c0_1], .int .i64 a1, .agg #[.slice A2_0 l2_0.length c2_0, .slice A2_1 l2_1.length c2_1]] w fun e w' => ∃ v0_ v1_ : Value, e = .returned (.agg #[v0_, v1_]) ∧ Kd.R (Kd.int .i64) 2 w' w.heap.size (fun _ => True) v0_ r1 ∧ Kd.R (Kd.int .i64) 47 w' w.heap.size (fun _ => True) v1_ r2 ∧ Below w.heap.size w w' := by
  have hu26 := Try.underlying26
  have HR0_0 := Aside0.mk hr0_0
  have HC0_0 := Aside0.mk hc0_0
  clear hr0_0 hc0_0
  have HR0_1 := Aside0.mk hr0_1
  have HC0_1 := Aside0.mk hc0_1
  clear hr0_1 hc0_1
  have HR2_0 := Aside0.mk hr2_0
  have HC2_0 := Aside0.mk hc2_0
  clear hr2_0 hc2_0
  have HR2_1 := Aside0.mk hr2_1
  have HC2_1 := Aside0.mk hc2_1
  clear hr2_1 hc2_1
  have HB := Aside0.mk (Below.refl w.heap.size w)
  have H : ((inner_Inner_clone.f l0_0 l0_1).bind fun bt1050 => ((inner_Inner_in.f l0_0 l0_1 a1).bind fun t1057 => (if t1057 = true then ((inner_Inner_right.f l2_0 l2_1).bind fun t1058 => (inner_Inner_Absorb.j0 k a1 (!t1058) l2_0 l2_1 bt1050.1 bt1050.2)) else (inner_Inner_Absorb.j0 k a1 true l2_0 l2_1 bt1050.1 bt1050.2)))) = some (r1, r2) := h
  clear h
  replace H := Option.bind_eq_some_iff.mp H
  obtain ⟨⟨t1050, t1053⟩, A40, H⟩ := H
  replace H : ((inner_Inner_in.f l0_0 l0_1 a1).bind fun t1057 => (if t1057 = true then ((inner_Inner_right.f l2_0 l2_1).bind fun t1058 => (inner_Inner_Absorb.j0 k a1 (!t1058) l2_0 l2_1 t1050 t1053)) else (inner_Inner_Absorb.j0 k a1 true l2_0 l2_1 t1050 t1053))) = some (r1, r2) := H
  have A4 := Aside0.mk A40
  clear A40
  have HC5 := Aside0.mk H
  clear H
  go_enter Try.func77, Try.ntmps77
  go_upto_region 2 with (first | ((with_reducible refine gate_dst (N := 3) rfl ?_); refine box_event ?hg (N := 3) ?hd (cs := #[.slice A0_0 l0_0.length c0_0, .slice A0_1 l0_1.length c0_1]) (t := 26) ?hr ?_; (case hd => rfl); (case hg => rfl); (case hr => first | (go_simp; done) | (go_simp; rfl)); intro gb1047 hg w6 hbox hb; have n0_ := Aside0.mk (below_step (by repeat (first | (with_reducible first | exact HB.out | apply below_alloc | apply pw_below_drewN | apply below_drew1) | exact HB.out)) hb); have n1_ := Aside0.mk (hbox); have n2_ := Aside0.mk ((by rw [hg]; exact (below_size (by repeat (first | (with_reducible first | exact HB.out | apply below_alloc | apply pw_below_drewN | apply below_drew1) | exact HB.out))) : w.heap.size ≤ gb1047)); have n3_ := Aside0.mk ((by rw [hg]; exact (below_size (by repeat (first | (with_reducible first | exact HB.out | apply below_alloc | apply pw_below_drewN | apply below_drew1) | exact HB.out))) : w.heap.size ≤ gb1047)); clear HB; have HB := n0_; have BK1047 := n1_; have GW1047 := n2_; have GE1047 := n3_; clear n0_ n1_ n2_ n3_; clear hb hbox hg) | ((with_reducible refine gate_dst (N := 5) rfl ?_); refine box_event ?hg (N := 5) ?hd (cs := #[.slice A2_0 l2_0.length c2_0, .slice A2_1 l2_1.length c2_1]) (t := 26) ?hr ?_; (case hd => rfl); (case hg => rfl); (case hr => first | (go_simp; done) | (go_simp; rfl)); intro gb1048 hg w7 hbox hb; have n0_ := Aside0.mk (blk_below (g := gb1047) (o := .cells #[.slice A0_0 l0_0.length c0_0, .slice A0_1 l0_1.length c0_1] 26 (0, 0)) (by (with_reducible repeat (first | refine blk_drewN ?_ _ | refine blk_drew ?_ | refine blk_alloc ?_ _)); exact BK1047.out) hb); have n1_ := Aside0.mk (below_step (by repeat (first | (with_reducible first | exact HB.out | apply below_alloc | apply pw_below_drewN | apply below_drew1 | refine below_set ?_ GE1047.out) | exact HB.out)) hb); have n2_ := Aside0.mk (hbox); have n3_ := Aside0.mk ((by rw [hg]; exact (below_size (by repeat (first | (with_reducible first | exact HB.out | apply below_alloc | apply pw_below_drewN | apply below_drew1 | refine below_set ?_ GE1047.out) | exact HB.out))) : w.heap.size ≤ gb1048)); have n4_ := Aside0.mk ((by rw [hg]; exact (below_size (by repeat (first | (with_reducible first | exact HB.out | apply below_alloc | apply pw_below_drewN | apply below_drew1 | refine below_set ?_ GE1047.out) | exact HB.out))) : w.heap.size ≤ gb1048)); have n5_ := Aside0.mk ((by rw [hg]; exact Nat.ne_of_lt (blk_lt (g := gb1047) (o := .cells #[.slice A0_0 l0_0.length c0_0, .slice A0_1 l0_1.length c0_1] 26 (0, 0)) (by (with_reducible repeat (first | refine blk_drewN ?_ _ | refine blk_drew ?_ | refine blk_alloc ?_ _)); exact BK1047.out)) : gb1047 ≠ gb1048)); have n6_ := Aside0.mk ((by rw [hg]; exact Nat.ne_of_gt (blk_lt (g := gb1047) (o := .cells #[.slice A0_0 l0_0.length c0_0, .slice A0_1 l0_1.length c0_1] 26 (0, 0)) (by (with_reducible repeat (first | refine blk_drewN ?_ _ | refine blk_drew ?_ | refine blk_alloc ?_ _)); exact BK1047.out)) : gb1048 ≠ gb1047)); clear BK1047; clear HB; have BK1047 := n0_; have HB := n1_; have BK1048 := n2_; have GW1048 := n3_; have GE1048 := n4_; have NB1047_1048 := n5_; have NB1048_1047 := n6_; clear n0_ n1_ n2_ n3_ n4_ n5_ n6_; clear hb hbox hg) | ((with_reducible refine gate_dst (N := 6) rfl ?_); refine box_event ?hg (N := 6) ?hd (cs := #[.slice none 0 0, .slice none 0 0]) (t := 26) ?hr ?_; (case hd => rfl); (case hg => rfl); (case hr => first | (go_simp; done) | (go_simp; rfl)); intro gb1049 hg w8 hbox hb; have n0_ := Aside0.mk (blk_below (g := gb1047) (o := .cells #[.slice A0_0 l0_0.length c0_0, .slice A0_1 l0_1.length c0_1] 26 (0, 0)) (by (with_reducible repeat (first | refine blk_drewN ?_ _ | refine blk_drew ?_ | refine blk_alloc ?_ _)); exact BK1047.out) hb); have n1_ := Aside0.mk (blk_below (g := gb1048) (o := .cells #[.slice A2_0 l2_0.length c2_0, .slice A2_1 l2_1.length c2_1] 26 (0, 0)) (by (with_reducible repeat (first | refine blk_drewN ?_ _ | refine blk_drew ?_ | refine blk_alloc ?_ _)); exact BK1048.out) hb); have n2_ := Aside0.mk (below_step (by repeat (first | (with_reducible first | exact HB.out | apply below_alloc | apply pw_below_drewN | apply below_drew1 | refine below_set ?_ GE1047.out | refine below_set ?_ GE1048.out) | exact HB.out)) hb); have n3_ := Aside0.mk (hbox); have n4_ := Aside0.mk ((by rw [hg]; exact (below_size (by repeat (first | (with_reducible first | exact HB.out | apply below_alloc | apply pw_below_drewN | apply below_drew1 | refine below_set ?_ GE1047.out | refine below_set ?_ GE1048.out) | exact HB.out))) : w.heap.size ≤ gb1049)); have n5_ := Aside0.mk ((by rw [hg]; exact (below_size (by repeat (first | (with_reducible first | exact HB.out | apply below_alloc | apply pw_below_drewN | apply below_drew1 | refine below_set ?_ GE1047.out | refine below_set ?_ GE1048.out) | exact HB.out))) : w.heap.size ≤ gb1049)); have n6_ := Aside0.mk ((by rw [hg]; exact Nat.ne_of_lt (blk_lt (g := gb1047) (o := .cells #[.slice A0_0 l0_0.length c0_0, .slice A0_1 l0_1.length c0_1] 26 (0, 0)) (by (with_reducible repeat (first | refine blk_drewN ?_ _ | refine blk_drew ?_ | refine blk_alloc ?_ _)); exact BK1047.out)) : gb1047 ≠ gb1049)); have n7_ := Aside0.mk ((by rw [hg]; exact Nat.ne_of_gt (blk_lt (g := gb1047) (o := .cells #[.slice A0_0 l0_0.length c0_0, .slice A0_1 l0_1.length c0_1] 26 (0, 0)) (by (with_reducible repeat (first | refine blk_drewN ?_ _ | refine blk_drew ?_ | refine blk_alloc ?_ _)); exact BK1047.out)) : gb1049 ≠ gb1047)); have n8_ := Aside0.mk ((by rw [hg]; exact Nat.ne_of_lt (blk_lt (g := gb1048) (o := .cells #[.slice A2_0 l2_0.length c2_0, .slice A2_1 l2_1.length c2_1] 26 (0, 0)) (by (with_reducible repeat (first | refine blk_drewN ?_ _ | refine blk_drew ?_ | refine blk_alloc ?_ _)); exact BK1048.out)) : gb1048 ≠ gb1049)); have n9_ := Aside0.mk ((by rw [hg]; exact Nat.ne_of_gt (blk_lt (g := gb1048) (o := .cells #[.slice A2_0 l2_0.length c2_0, .slice A2_1 l2_1.length c2_1] 26 (0, 0)) (by (with_reducible repeat (first | refine blk_drewN ?_ _ | refine blk_drew ?_ | refine blk_alloc ?_ _)); exact BK1048.out)) : gb1049 ≠ gb1048)); clear BK1047; clear BK1048; clear HB; have BK1047 := n0_; have BK1048 := n1_; have HB := n2_; have BK1049 := n3_; have GW1049 := n4_; have GE1049 := n5_; have NB1047_1049 := n6_; have NB1049_1047 := n7_; have NB1048_1049 := n8_; have NB1049_1048 := n9_; clear n0_ n1_ n2_ n3_ n4_ n5_ n6_ n7_ n8_ n9_; clear hb hbox hg; have hnb9 := NB1047_1048.out; have hnc9 := NB1048_1047.out; have hnb10 := NB1047_1049.out; have hnc10 := NB1049_1047.out; have hcz11_0 : w8.cell? ⟨gb1047, 0, none⟩ = some (.slice A0_0 l0_0.length c0_0) := (blk_cell BK1047.out 0).trans rfl; have hcz11_1 : w8.cell? ⟨gb1047, 1, none⟩ = some (.slice A0_1 l0_1.length c0_1) := (blk_cell BK1047.out 1).trans rfl; have hfz11_0 := blk_frozen BK1047.out 0; have hfz11_1 := blk_frozen BK1047.out 1) | ((with_reducible refine gate_callee (f := 100) rfl ?_); refine goesL_ (some 9) rfl rfl Try.func100 (by kernel_rfl) rfl #[.agg #[.slice A0_0 l0_0.length c0_0, .slice A0_1 l0_1.length c0_1]] rfl (by (try simp only [List.map_toArray, List.map_cons, List.map_nil]); first | done | rfl | (simp only [List.length_drop, List.length_take]; rfl)) ?_; (with_reducible refine (inner_Inner_clone.calls _ _ l0_0 _ _ l0_1 t1050 t1053 _ ?side1 ?side2 ?side3 ?side4 A4.out).mono ?_); (case side1 => repeat (first | exact (Kd.C_below HR0_0.out HB.out) | (with_reducible refine Kd.C_alloc ?_ _) | (with_reducible refine Kd.C_drewN ?_ _) | (with_reducible refine Kd.C_drew ?_))); (case side2 => exact HC0_0.out); (case side3 => repeat (first | exact (Kd.C_below HR0_1.out HB.out) | (with_reducible refine Kd.C_alloc ?_ _) | (with_reducible refine Kd.C_drewN ?_ _) | (with_reducible refine Kd.C_drew ?_))); (case side4 => exact HC0_1.out); rintro e w12 ⟨v1051, v1054, rfl, ho0, ho1, hb⟩; refine ⟨_, rfl, ?_⟩; have n0_ := Aside0.mk (Kd.R_lower ho0 (below_size (by repeat (first | (with_reducible first | exact HB.out | apply below_alloc | apply pw_below_drewN | apply below_drew1 | refine below_set ?_ GE1047.out | refine below_set ?_ GE1048.out | refine below_set ?_ GE1049.out) | exact HB.out)))); have n1_ := Aside0.mk (Kd.R_lower ho1 (below_size (by repeat (first | (with_reducible first | exact HB.out | apply below_alloc | apply pw_below_drewN | apply below_drew1 | refine below_set ?_ GE1047.out | refine below_set ?_ GE1048.out | refine below_set ?_ GE1049.out) | exact HB.out)))); have n2_ := Aside0.mk (blk_below (g := gb1047) (o := .cells #[.slice A0_0 l0_0.length c0_0, .slice A0_1 l0_1.length c0_1] 26 (0, 0)) (by (with_reducible repeat (first | refine blk_drewN ?_ _ | refine blk_drew ?_ | refine blk_alloc ?_ _)); exact BK1047.out) hb); have n3_ := Aside0.mk (blk_below (g := gb1048) (o := .cells #[.slice A2_0 l2_0.length c2_0, .slice A2_1 l2_1.length c2_1] 26 (0, 0)) (by (with_reducible repeat (first | refine blk_drewN ?_ _ | refine blk_drew ?_ | refine blk_alloc ?_ _)); exact BK1048.out) hb); have n4_ := Aside0.mk (blk_below (g := gb1049) (o := .cells #[.slice none 0 0, .slice none 0 0] 26 (0, 0)) (by (with_reducible repeat (first | refine blk_drewN ?_ _ | refine blk_drew ?_ | refine blk_alloc ?_ _)); exact BK1049.out) hb); have n5_ := Aside0.mk (below_step (by repeat (first | (with_reducible first | exact HB.out | apply below_alloc | apply pw_below_drewN | apply below_drew1 | refine below_set ?_ GE1047.out | refine below_set ?_ GE1048.out | refine below_set ?_ GE1049.out) | exact HB.out)) hb); clear BK1047; clear BK1048; clear BK1049; clear HB; have HO1052 := n0_; have HO1055 := n1_; have BK1047 := n2_; have BK1048 := n3_; have BK1049 := n4_; have HB := n5_; clear n0_ n1_ n2_ n3_ n4_ n5_; (try clear hb); (try clear hb2); (try clear hk); (try clear hi); (try clear ho0); (try clear ho1)) | ((with_reducible refine gate_dst (N := 7) rfl ?_); refine box_event ?hg (N := 7) ?hd (cs := #[.slice none 0 0, .slice none 0 0]) (t := 26) ?hr ?_; (case hd => rfl); (case hg => rfl); (case hr => first | (go_simp; done) | (go_simp; rfl)); intro gb1056 hg w13 hbox hb; have n0_ := Aside0.mk (Kd.R_below (by (with_reducible repeat (first | apply Kd.R_alloc | apply Kd.R_drewN | apply Kd.R_drew)); exact HO1052.out) hb); have n1_ := Aside0.mk (Kd.R_below (by (with_reducible repeat (first | apply Kd.R_alloc | apply Kd.R_drewN | apply Kd.R_drew)); exact HO1055.out) hb); have n2_ := Aside0.mk (blk_below (g := gb1047) (o := .cells #[.slice A0_0 l0_0.length c0_0, .slice A0_1 l0_1.length c0_1] 26 (0, 0)) (by (with_reducible repeat (first | refine blk_drewN ?_ _ | refine blk_drew ?_ | refine blk_alloc ?_ _)); exact BK1047.out) hb); have n3_ := Aside0.mk (blk_below (g := gb1048) (o := .cells #[.slice A2_0 l2_0.length c2_0, .slice A2_1 l2_1.length c2_1] 26 (0, 0)) (by (with_reducible repeat (first | refine blk_drewN ?_ _ | refine blk_drew ?_ | refine blk_alloc ?_ _)); exact BK1048.out) hb); have n4_ := Aside0.mk (blk_below (g := gb1049) (o := .cells #[.slice none 0 0, .slice none 0 0] 26 (0, 0)) (by (with_reducible repeat (first | refine blk_drewN ?_ _ | refine blk_drew ?_ | refine blk_alloc ?_ _)); exact BK1049.out) hb); have n5_ := Aside0.mk (below_step (by repeat (first | (with_reducible first | exact HB.out | apply below_alloc | apply pw_below_drewN | apply below_drew1 | refine below_set ?_ GE1047.out | refine below_set ?_ GE1048.out | refine below_set ?_ GE1049.out) | exact HB.out)) hb); have n6_ := Aside0.mk (hbox); have n7_ := Aside0.mk ((by rw [hg]; exact (below_size (by repeat (first | (with_reducible first | exact HB.out | apply below_alloc | apply pw_below_drewN | apply below_drew1 | refine below_set ?_ GE1047.out | refine below_set ?_ GE1048.out | refine below_set ?_ GE1049.out) | exact HB.out))) : w.heap.size ≤ gb1056)); have n8_ := Aside0.mk ((by rw [hg]; exact (below_size (by repeat (first | (with_reducible first | exact HB.out | apply below_alloc | apply pw_below_drewN | apply below_drew1 | refine below_set ?_ GE1047.out | refine below_set ?_ GE1048.out | refine below_set ?_ GE1049.out) | exact HB.out))) : w.heap.size ≤ gb1056)); have n9_ := Aside0.mk ((by rw [hg]; exact Nat.ne_of_lt (blk_lt (g := gb1047) (o := .cells #[.slice A0_0 l0_0.length c0_0, .slice A0_1 l0_1.length c0_1] 26 (0, 0)) (by (with_reducible repeat (first | refine blk_drewN ?_ _ | refine blk_drew ?_ | refine blk_alloc ?_ _)); exact BK1047.out)) : gb1047 ≠ gb1056)); have n10_ := Aside0.mk ((by rw [hg]; exact Nat.ne_of_gt (blk_lt (g := gb1047) (o := .cells #[.slice A0_0 l0_0.length c0_0, .slice A0_1 l0_1.length c0_1] 26 (0, 0)) (by (with_reducible repeat (first | refine blk_drewN ?_ _ | refine blk_drew ?_ | refine blk_alloc ?_ _)); exact BK1047.out)) : gb1056 ≠ gb1047)); have n11_ := Aside0.mk ((by rw [hg]; exact Nat.ne_of_lt (blk_lt (g := gb1048) (o := .cells #[.slice A2_0 l2_0.length c2_0, .slice A2_1 l2_1.length c2_1] 26 (0, 0)) (by (with_reducible repeat (first | refine blk_drewN ?_ _ | refine blk_drew ?_ | refine blk_alloc ?_ _)); exact BK1048.out)) : gb1048 ≠ gb1056)); have n12_ := Aside0.mk ((by rw [hg]; exact Nat.ne_of_gt (blk_lt (g := gb1048) (o := .cells #[.slice A2_0 l2_0.length c2_0, .slice A2_1 l2_1.length c2_1] 26 (0, 0)) (by (with_reducible repeat (first | refine blk_drewN ?_ _ | refine blk_drew ?_ | refine blk_alloc ?_ _)); exact BK1048.out)) : gb1056 ≠ gb1048)); have n13_ := Aside0.mk ((by rw [hg]; exact Nat.ne_of_lt (blk_lt (g := gb1049) (o := .cells #[.slice none 0 0, .slice none 0 0] 26 (0, 0)) (by (with_reducible repeat (first | refine blk_drewN ?_ _ | refine blk_drew ?_ | refine blk_alloc ?_ _)); exact BK1049.out)) : gb1049 ≠ gb1056)); have n14_ := Aside0.mk ((by rw [hg]; exact Nat.ne_of_gt (blk_lt (g := gb1049) (o := .cells #[.slice none 0 0, .slice none 0 0] 26 (0, 0)) (by (with_reducible repeat (first | refine blk_drewN ?_ _ | refine blk_drew ?_ | refine blk_alloc ?_ _)); exact BK1049.out)) : gb1056 ≠ gb1049)); clear HO1052; clear HO1055; clear BK1047; clear BK1048; clear BK1049; clear HB; have HO1052 := n0_; have HO1055 := n1_; have BK1047 := n2_; have BK1048 := n3_; have BK1049 := n4_; have HB := n5_; have BK1056 := n6_; have GW1056 := n7_; have GE1056 := n8_; have NB1047_1056 := n9_; have NB1056_1047 := n10_; have NB1048_1056 := n11_; have NB1056_1048 := n12_; have NB1049_1056 := n13_; have NB1056_1049 := n14_; clear n0_ n1_ n2_ n3_ n4_ n5_ n6_ n7_ n8_ n9_ n10_ n11_ n12_ n13_ n14_; clear hb hbox hg; obtain ⟨Ao14, co14, eo14⟩ := Kd.R_slice HO1052.out; subst eo14; have hnb15 := NB1056_1047.out; have hnc15 := NB1047_1056.out; have hnb16 := NB1056_1048.out; have hnc16 := NB1048_1056.out; have hnb17 := NB1056_1049.out; have hnc17 := NB1049_1056.out; have hcz18_0 : w13.cell? ⟨gb1056, 0, none⟩ = some (.slice none 0 0) := (blk_cell BK1056.out 0).trans rfl; have hcz18_1 : w13.cell? ⟨gb1056, 1, none⟩ = some (.slice none 0 0) := (blk_cell BK1056.out 1).trans rfl; have hfz18_0 := blk_frozen BK1056.out 0; have hfz18_1 := blk_frozen BK1056.out 1; obtain ⟨Ao19, co19, eo19⟩ := Kd.R_slice HO1055.out; subst eo19))
  (try simp only [Act.put, List.setIfInBounds_toArray, List.set_cons_zero, List.set_cons_succ])
  go_cut [18] (fun v18 wc => ∃ (kq : Nat) (x18_4 : Bool), v18 = .bool x18_4 ∧ Aside0 (inner_Inner_Absorb.j0 kq a1 x18_4 l2_0 l2_1 t1050 t1053 = some (r1, r2)) ∧ Aside0 (kq ≤ k) ∧ Aside0 (Kd.R (Kd.int .i64) 2 wc w.heap.size (fun _ => True) (.slice Ao14 t1050.length co14) t1050) ∧ Aside0 (Kd.R (Kd.int .i64) 47 wc w.heap.size (fun _ => True) (.slice Ao19 t1053.length co19) t1053) ∧ Aside0 (wc.heap[gb1047]? = some (.cells #[(.slice A0_0 l0_0.length c0_0), (.slice A0_1 l0_1.length c0_1)] 26 (0, 0))) ∧ Aside0 (wc.heap[gb1048]? = some (.cells #[(.slice A2_0 l2_0.length c2_0), (.slice A2_1 l2_1.length c2_1)] 26 (0, 0))) ∧ Aside0 (wc.heap[gb1049]? = some (.cells #[(.slice none 0 0), (.slice none 0 0)] 26 (0, 0))) ∧ Aside0 (wc.heap[gb1056]? = some (.cells #[(.slice Ao14 t1050.length co14), (.slice Ao19 t1053.length co19)] 26 (0, 0))) ∧ Aside0 (Below w.heap.size w wc))
  case first =>
    have H := HC5.out
    clear HC5
    replace H := Option.bind_eq_some_iff.mp H
    obtain ⟨t1057, A200, H⟩ := H
    replace H : (if t1057 = true then ((inner_Inner_right.f l2_0 l2_1).bind fun t1058 => (inner_Inner_Absorb.j0 k a1 (!t1058) l2_0 l2_1 t1050 t1053)) else (inner_Inner_Absorb.j0 k a1 true l2_0 l2_1 t1050 t1053)) = some (r1, r2) := H
    have A20 := Aside0.mk A200
    clear A200
    by_cases c21 : t1057 = true
    · subst c21
      have H1 : ((inner_Inner_right.f l2_0 l2_1).bind fun t1058 => (inner_Inner_Absorb.j0 k a1 (!t1058) l2_0 l2_1 t1050 t1053)) = some (r1, r2) := by rw [if_pos rfl] at H; exact H
      clear H
      have H := H1
      clear H1
      replace H := Option.bind_eq_some_iff.mp H
      obtain ⟨t1058, A220, H⟩ := H
      replace H : (inner_Inner_Absorb.j0 k a1 (!t1058) l2_0 l2_1 t1050 t1053) = some (r1, r2) := H
      have A22 := Aside0.mk A220
      clear A220
      have H' := Aside0.mk H
      clear H
      have hnb23 := NB1047_1048.out
      have hnc23 := NB1048_1047.out
      have hnb24 := NB1047_1049.out
      have hnc24 := NB1049_1047.out
      have hnb25 := NB1047_1056.out
      have hnc25 := NB1056_1047.out
      have hcz26_0 : w13.cell? ⟨gb1047, 0, none⟩ = some (.slice A0_0 l0_0.length c0_0) := (blk_cell BK1047.out 0).trans rfl
      have hcz26_1 : w13.cell? ⟨gb1047, 1, none⟩ = some (.slice A0_1 l0_1.length c0_1) := (blk_cell BK1047.out 1).trans rfl
      have hfz26_0 := blk_frozen BK1047.out 0
      have hfz26_1 := blk_frozen BK1047.out 1
      go_wp2_with (first | ((with_reducible refine gate_callee (f := 101) rfl ?_); refine goesL_ (some 12) rfl rfl Try.func101 (by kernel_rfl) rfl #[.agg #[.slice A0_0 l0_0.length c0_0, .slice A0_1 l0_1.length c0_1], .int .i64 a1] rfl (by (try simp only [List.map_toArray, List.map_cons, List.map_nil]); first | done | rfl | (simp only [List.length_drop, List.length_take]; rfl)) ?_; (with_reducible refine (inner_Inner_in.calls _ _ l0_0 _ _ l0_1 a1 true _ ?side1 ?side2 ?side3 ?side4 A20.out).mono ?_); (case side1 => exact Kd.C_below HR0_0.out (by repeat (first | (with_reducible first | exact HB.out | apply below_alloc | apply pw_below_drewN | apply below_drew1 | refine below_set ?_ GE1047.out | refine below_set ?_ GE1048.out | refine below_set ?_ GE1049.out | refine below_set ?_ GE1056.out) | exact HB.out))); (case side2 => exact HC0_0.out); (case side3 => exact Kd.C_below HR0_1.out (by repeat (first | (with_reducible first | exact HB.out | apply below_alloc | apply pw_below_drewN | apply below_drew1 | refine below_set ?_ GE1047.out | refine below_set ?_ GE1048.out | refine below_set ?_ GE1049.out | refine below_set ?_ GE1056.out) | exact HB.out))); (case side4 => exact HC0_1.out); rintro e w27 ⟨rfl, hb⟩; refine ⟨_, rfl, ?_⟩; have n0_ := Aside0.mk (Kd.R_below (by (with_reducible repeat (first | apply Kd.R_alloc | apply Kd.R_drewN | apply Kd.R_drew)); exact (Kd.R_mono (Kd.R_far (p := ⟨gb1056, 1, none⟩) (Kd.R_far (p := ⟨gb1056, 0, none⟩) (Kd.R_types HO1052.out BK1056.out (by decide)) (fun _ hk => hk.2) (.slice Ao14 t1050.length co14)) (fun _ hk => hk.2) (.slice Ao19 t1053.length co19)) (fun _ h_ => h_.1))) hb); have n1_ := Aside0.mk (Kd.R_below (by (with_reducible repeat (first | apply Kd.R_alloc | apply Kd.R_drewN | apply Kd.R_drew)); exact (Kd.R_mono (Kd.R_far (p := ⟨gb1056, 1, none⟩) (Kd.R_far (p := ⟨gb1056, 0, none⟩) (Kd.R_types HO1055.out BK1056.out (by decide)) (fun _ hk => hk.2) (.slice Ao14 t1050.length co14)) (fun _ hk => hk.2) (.slice Ao19 t1053.length co19)) (fun _ h_ => h_.1))) hb); have n2_ := Aside0.mk (blk_below (g := gb1047) (o := .cells #[.slice A0_0 l0_0.length c0_0, .slice A0_1 l0_1.length c0_1] 26 (0, 0)) (by (with_reducible repeat (first | refine blk_drewN ?_ _ | refine blk_drew ?_ | refine blk_alloc ?_ _)); refine blk_far ?_ NB1047_1056.out _; (with_reducible repeat (first | refine blk_drewN ?_ _ | refine blk_drew ?_ | refine blk_alloc ?_ _)); refine blk_far ?_ NB1047_1056.out _; (with_reducible repeat (first | refine blk_drewN ?_ _ | refine blk_drew ?_ | refine blk_alloc ?_ _)); exact BK1047.out) hb); have n3_ := Aside0.mk (blk_below (g := gb1048) (o := .cells #[.slice A2_0 l2_0.length c2_0, .slice A2_1 l2_1.length c2_1] 26 (0, 0)) (by (with_reducible repeat (first | refine blk_drewN ?_ _ | refine blk_drew ?_ | refine blk_alloc ?_ _)); refine blk_far ?_ NB1048_1056.out _; (with_reducible repeat (first | refine blk_drewN ?_ _ | refine blk_drew ?_ | refine blk_alloc ?_ _)); refine blk_far ?_ NB1048_1056.out _; (with_reducible repeat (first | refine blk_drewN ?_ _ | refine blk_drew ?_ | refine blk_alloc ?_ _)); exact BK1048.out) hb); have n4_ := Aside0.mk (blk_below (g := gb1049) (o := .cells #[.slice none 0 0, .slice none 0 0] 26 (0, 0)) (by (with_reducible repeat (first | refine blk_drewN ?_ _ | refine blk_drew ?_ | refine blk_alloc ?_ _)); refine blk_far ?_ NB1049_1056.out _; (with_reducible repeat (first | refine blk_drewN ?_ _ | refine blk_drew ?_ | refine blk_alloc ?_ _)); refine blk_far ?_ NB1049_1056.out _; (with_reducible repeat (first | refine blk_drewN ?_ _ | refine blk_drew ?_ | refine blk_alloc ?_ _)); exact BK1049.out) hb); have n5_ := Aside0.mk (blk_below (g := gb1056) (o := .cells #[.slice Ao14 t1050.length co14, .slice Ao19 t1053.length co19] 26 (0, 0)) (by (with_reducible repeat (first | refine blk_drewN ?_ _ | refine blk_drew ?_ | refine blk_alloc ?_ _)); refine blk_put (cs := #[.slice Ao14 t1050.length co14, .slice none 0 0]) ?_ 1 _ rfl; (with_reducible repeat (first | refine blk_drewN ?_ _ | refine blk_drew ?_ | refine blk_alloc ?_ _)); refine blk_put (cs := #[.slice none 0 0, .slice none 0 0]) ?_ 0 _ rfl; (with_reducible repeat (first | refine blk_drewN ?_ _ | refine blk_drew ?_ | refine blk_alloc ?_ _)); exact BK1056.out) hb); have n6_ := Aside0.mk (below_step (by repeat (first | (with_reducible first | exact HB.out | apply below_alloc | apply pw_below_drewN | apply below_drew1 | refine below_set ?_ GE1047.out | refine below_set ?_ GE1048.out | refine below_set ?_ GE1049.out | refine below_set ?_ GE1056.out) | exact HB.out)) hb); clear HO1052; clear HO1055; clear BK1047; clear BK1048; clear BK1049; clear BK1056; clear HB; have HO1052 := n0_; have HO1055 := n1_; have BK1047 := n2_; have BK1048 := n3_; have BK1049 := n4_; have BK1056 := n5_; have HB := n6_; clear n0_ n1_ n2_ n3_ n4_ n5_ n6_; (try clear hb); (try clear hb2); (try clear hk); (try clear hi); have hnb28 := NB1048_1049.out; have hnc28 := NB1049_1048.out; have hnb29 := NB1048_1056.out; have hnc29 := NB1056_1048.out; have hcz30_0 : w27.cell? ⟨gb1048, 0, none⟩ = some (.slice A2_0 l2_0.length c2_0) := (blk_cell BK1048.out 0).trans rfl; have hcz30_1 : w27.cell? ⟨gb1048, 1, none⟩ = some (.slice A2_1 l2_1.length c2_1) := (blk_cell BK1048.out 1).trans rfl; have hfz30_0 := blk_frozen BK1048.out 0; have hfz30_1 := blk_frozen BK1048.out 1) | (go_at_call 102; (with_reducible refine (inner_Inner_right.calls _ _ l2_0 _ _ l2_1 t1058 _ ?side1 ?side2 ?side3 ?side4 A22.out).mono ?_); (case side1 => repeat (first | exact (Kd.C_below HR2_0.out HB.out) | (with_reducible refine Kd.C_alloc ?_ _) | (with_reducible refine Kd.C_drewN ?_ _) | (with_reducible refine Kd.C_drew ?_))); (case side2 => exact HC2_0.out); (case side3 => repeat (first | exact (Kd.C_below HR2_1.out HB.out) | (with_reducible refine Kd.C_alloc ?_ _) | (with_reducible refine Kd.C_drewN ?_ _) | (with_reducible refine Kd.C_drew ?_))); (case side4 => exact HC2_1.out); rintro e w31 ⟨rfl, hb⟩; have n0_ := Aside0.mk (Kd.R_below (by (with_reducible repeat (first | apply Kd.R_alloc | apply Kd.R_drewN | apply Kd.R_drew)); exact HO1052.out) hb); have n1_ := Aside0.mk (Kd.R_below (by (with_reducible repeat (first | apply Kd.R_alloc | apply Kd.R_drewN | apply Kd.R_drew)); exact HO1055.out) hb); have n2_ := Aside0.mk (blk_below (g := gb1047) (o := .cells #[.slice A0_0 l0_0.length c0_0, .slice A0_1 l0_1.length c0_1] 26 (0, 0)) (by (with_reducible repeat (first | refine blk_drewN ?_ _ | refine blk_drew ?_ | refine blk_alloc ?_ _)); exact BK1047.out) hb); have n3_ := Aside0.mk (blk_below (g := gb1048) (o := .cells #[.slice A2_0 l2_0.length c2_0, .slice A2_1 l2_1.length c2_1] 26 (0, 0)) (by (with_reducible repeat (first | refine blk_drewN ?_ _ | refine blk_drew ?_ | refine blk_alloc ?_ _)); exact BK1048.out) hb); have n4_ := Aside0.mk (blk_below (g := gb1049) (o := .cells #[.slice none 0 0, .slice none 0 0] 26 (0, 0)) (by (with_reducible repeat (first | refine blk_drewN ?_ _ | refine blk_drew ?_ | refine blk_alloc ?_ _)); exact BK1049.out) hb); have n5_ := Aside0.mk (blk_below (g := gb1056) (o := .cells #[.slice Ao14 t1050.length co14, .slice Ao19 t1053.length co19] 26 (0, 0)) (by (with_reducible repeat (first | refine blk_drewN ?_ _ | refine blk_drew ?_ | refine blk_alloc ?_ _)); exact BK1056.out) hb); have n6_ := Aside0.mk (below_step (by repeat (first | (with_reducible first | exact HB.out | apply below_alloc | apply pw_below_drewN | apply below_drew1 | refine below_set ?_ GE1047.out | refine below_set ?_ GE1048.out | refine below_set ?_ GE1049.out | refine below_set ?_ GE1056.out) | exact HB.out)) hb); clear HO1052; clear HO1055; clear BK1047; clear BK1048; clear BK1049; clear BK1056; clear HB; have HO1052 := n0_; have HO1055 := n1_; have BK1047 := n2_; have BK1048 := n3_; have BK1049 := n4_; have BK1056 := n5_; have HB := n6_; clear n0_ n1_ n2_ n3_ n4_ n5_ n6_; (try clear hb); (try clear hb2); (try clear hk); (try clear hi)))
      go_meet
      case rel => exact ⟨_, (!t1058), (by first | rfl | (simp; done) | (simp [*]; done)), H', ⟨by first | omega | exact Nat.le_refl _⟩, ⟨by (with_reducible repeat (first | apply Kd.R_alloc | apply Kd.R_drewN | apply Kd.R_drew)); exact HO1052.out⟩, ⟨by (with_reducible repeat (first | apply Kd.R_alloc | apply Kd.R_drewN | apply Kd.R_drew)); exact HO1055.out⟩, ⟨by (with_reducible repeat (first | refine blk_drewN ?_ _ | refine blk_drew ?_ | refine blk_alloc ?_ _)); exact BK1047.out⟩, ⟨by (with_reducible repeat (first | refine blk_drewN ?_ _ | refine blk_drew ?_ | refine blk_alloc ?_ _)); exact BK1048.out⟩, ⟨by (with_reducible repeat (first | refine blk_drewN ?_ _ | refine blk_drew ?_ | refine blk_alloc ?_ _)); exact BK1049.out⟩, ⟨by (with_reducible repeat (first | refine blk_drewN ?_ _ | refine blk_drew ?_ | refine blk_alloc ?_ _)); exact BK1056.out⟩, ⟨by repeat (first | (with_reducible first | exact HB.out | apply below_alloc | apply pw_below_drewN | apply below_drew1 | refine below_set ?_ GE1047.out | refine below_set ?_ GE1048.out | refine below_set ?_ GE1049.out | refine below_set ?_ GE1056.out) | exact HB.out)⟩⟩
    · replace c21 := Bool.eq_false_iff.mpr c21
      subst c21
      have H1 : (inner_Inner_Absorb.j0 k a1 true l2_0 l2_1 t1050 t1053) = some (r1, r2) := by rw [if_neg (show ¬ (false = true) by decide)] at H; exact H
      clear H
      have H := H1
      clear H1
      have H' := Aside0.mk H
      clear H
      have hnb32 := NB1047_1048.out
      have hnc32 := NB1048_1047.out
      have hnb33 := NB1047_1049.out
      have hnc33 := NB1049_1047.out
      have hnb34 := NB1047_1056.out
      have hnc34 := NB1056_1047.out
      have hcz35_0 : w13.cell? ⟨gb1047, 0, none⟩ = some (.slice A0_0 l0_0.length c0_0) := (blk_cell BK1047.out 0).trans rfl
      have hcz35_1 : w13.cell? ⟨gb1047, 1, none⟩ = some (.slice A0_1 l0_1.length c0_1) := (blk_cell BK1047.out 1).trans rfl
      have hfz35_0 := blk_frozen BK1047.out 0
      have hfz35_1 := blk_frozen BK1047.out 1
      go_wp2_with (first | ((with_reducible refine gate_callee (f := 101) rfl ?_); refine goesL_ (some 12) rfl rfl Try.func101 (by kernel_rfl) rfl #[.agg #[.slice A0_0 l0_0.length c0_0, .slice A0_1 l0_1.length c0_1], .int .i64 a1] rfl (by (try simp only [List.map_toArray, List.map_cons, List.map_nil]); first | done | rfl | (simp only [List.length_drop, List.length_take]; rfl)) ?_; (with_reducible refine (inner_Inner_in.calls _ _ l0_0 _ _ l0_1 a1 false _ ?side1 ?side2 ?side3 ?side4 A20.out).mono ?_); (case side1 => exact Kd.C_below HR0_0.out (by repeat (first | (with_reducible first | exact HB.out | apply below_alloc | apply pw_below_drewN | apply below_drew1 | refine below_set ?_ GE1047.out | refine below_set ?_ GE1048.out | refine below_set ?_ GE1049.out | refine below_set ?_ GE1056.out) | exact HB.out))); (case side2 => exact HC0_0.out); (case side3 => exact Kd.C_below HR0_1.out (by repeat (first | (with_reducible first | exact HB.out | apply below_alloc | apply pw_below_drewN | apply below_drew1 | refine below_set ?_ GE1047.out | refine below_set ?_ GE1048.out | refine below_set ?_ GE1049.out | refine below_set ?_ GE1056.out) | exact HB.out))); (case side4 => exact HC0_1.out); rintro e w36 ⟨rfl, hb⟩; refine ⟨_, rfl, ?_⟩; have n0_ := Aside0.mk (Kd.R_below (by (with_reducible repeat (first | apply Kd.R_alloc | apply Kd.R_drewN | apply Kd.R_drew)); exact (Kd.R_mono (Kd.R_far (p := ⟨gb1056, 1, none⟩) (Kd.R_far (p := ⟨gb1056, 0, none⟩) (Kd.R_types HO1052.out BK1056.out (by decide)) (fun _ hk => hk.2) (.slice Ao14 t1050.length co14)) (fun _ hk => hk.2) (.slice Ao19 t1053.length co19)) (fun _ h_ => h_.1))) hb); have n1_ := Aside0.mk (Kd.R_below (by (with_reducible repeat (first | apply Kd.R_alloc | apply Kd.R_drewN | apply Kd.R_drew)); exact (Kd.R_mono (Kd.R_far (p := ⟨gb1056, 1, none⟩) (Kd.R_far (p := ⟨gb1056, 0, none⟩) (Kd.R_types HO1055.out BK1056.out (by decide)) (fun _ hk => hk.2) (.slice Ao14 t1050.length co14)) (fun _ hk => hk.2) (.slice Ao19 t1053.length co19)) (fun _ h_ => h_.1))) hb); have n2_ := Aside0.mk (blk_below (g := gb1047) (o := .cells #[.slice A0_0 l0_0.length c0_0, .slice A0_1 l0_1.length c0_1] 26 (0, 0)) (by (with_reducible repeat (first | refine blk_drewN ?_ _ | refine blk_drew ?_ | refine blk_alloc ?_ _)); refine blk_far ?_ NB1047_1056.out _; (with_reducible repeat (first | refine blk_drewN ?_ _ | refine blk_drew ?_ | refine blk_alloc ?_ _)); refine blk_far ?_ NB1047_1056.out _; (with_reducible repeat (first | refine blk_drewN ?_ _ | refine blk_drew ?_ | refine blk_alloc ?_ _)); exact BK1047.out) hb); have n3_ := Aside0.mk (blk_below (g := gb1048) (o := .cells #[.slice A2_0 l2_0.length c2_0, .slice A2_1 l2_1.length c2_1] 26 (0, 0)) (by (with_reducible repeat (first | refine blk_drewN ?_ _ | refine blk_drew ?_ | refine blk_alloc ?_ _)); refine blk_far ?_ NB1048_1056.out _; (with_reducible repeat (first | refine blk_drewN ?_ _ | refine blk_drew ?_ | refine blk_alloc ?_ _)); refine blk_far ?_ NB1048_1056.out _; (with_reducible repeat (first | refine blk_drewN ?_ _ | refine blk_drew ?_ | refine blk_alloc ?_ _)); exact BK1048.out) hb); have n4_ := Aside0.mk (blk_below (g := gb1049) (o := .cells #[.slice none 0 0, .slice none 0 0] 26 (0, 0)) (by (with_reducible repeat (first | refine blk_drewN ?_ _ | refine blk_drew ?_ | refine blk_alloc ?_ _)); refine blk_far ?_ NB1049_1056.out _; (with_reducible repeat (first | refine blk_drewN ?_ _ | refine blk_drew ?_ | refine blk_alloc ?_ _)); refine blk_far ?_ NB1049_1056.out _; (with_reducible repeat (first | refine blk_drewN ?_ _ | refine blk_drew ?_ | refine blk_alloc ?_ _)); exact BK1049.out) hb); have n5_ := Aside0.mk (blk_below (g := gb1056) (o := .cells #[.slice Ao14 t1050.length co14, .slice Ao19 t1053.length co19] 26 (0, 0)) (by (with_reducible repeat (first | refine blk_drewN ?_ _ | refine blk_drew ?_ | refine blk_alloc ?_ _)); refine blk_put (cs := #[.slice Ao14 t1050.length co14, .slice none 0 0]) ?_ 1 _ rfl; (with_reducible repeat (first | refine blk_drewN ?_ _ | refine blk_drew ?_ | refine blk_alloc ?_ _)); refine blk_put (cs := #[.slice none 0 0, .slice none 0 0]) ?_ 0 _ rfl; (with_reducible repeat (first | refine blk_drewN ?_ _ | refine blk_drew ?_ | refine blk_alloc ?_ _)); exact BK1056.out) hb); have n6_ := Aside0.mk (below_step (by repeat (first | (with_reducible first | exact HB.out | apply below_alloc | apply pw_below_drewN | apply below_drew1 | refine below_set ?_ GE1047.out | refine below_set ?_ GE1048.out | refine below_set ?_ GE1049.out | refine below_set ?_ GE1056.out) | exact HB.out)) hb); clear HO1052; clear HO1055; clear BK1047; clear BK1048; clear BK1049; clear BK1056; clear HB; have HO1052 := n0_; have HO1055 := n1_; have BK1047 := n2_; have BK1048 := n3_; have BK1049 := n4_; have BK1056 := n5_; have HB := n6_; clear n0_ n1_ n2_ n3_ n4_ n5_ n6_; (try clear hb); (try clear hb2); (try clear hk); (try clear hi)))
      go_meet
      case rel => exact ⟨_, (true), (by first | rfl | (simp; done) | (simp [*]; done)), H', ⟨by first | omega | exact Nat.le_refl _⟩, ⟨by (with_reducible repeat (first | apply Kd.R_alloc | apply Kd.R_drewN | apply Kd.R_drew)); exact HO1052.out⟩, ⟨by (with_reducible repeat (first | apply Kd.R_alloc | apply Kd.R_drewN | apply Kd.R_drew)); exact HO1055.out⟩, ⟨by (with_reducible repeat (first | refine blk_drewN ?_ _ | refine blk_drew ?_ | refine blk_alloc ?_ _)); exact BK1047.out⟩, ⟨by (with_reducible repeat (first | refine blk_drewN ?_ _ | refine blk_drew ?_ | refine blk_alloc ?_ _)); exact BK1048.out⟩, ⟨by (with_reducible repeat (first | refine blk_drewN ?_ _ | refine blk_drew ?_ | refine blk_alloc ?_ _)); exact BK1049.out⟩, ⟨by (with_reducible repeat (first | refine blk_drewN ?_ _ | refine blk_drew ?_ | refine blk_alloc ?_ _)); exact BK1056.out⟩, ⟨by repeat (first | (with_reducible first | exact HB.out | apply below_alloc | apply pw_below_drewN | apply below_drew1 | refine below_set ?_ GE1047.out | refine below_set ?_ GE1048.out | refine below_set ?_ GE1049.out | refine below_set ?_ GE1056.out) | exact HB.out)⟩⟩
  case rest =>
    clear HC5
    try clear c1
    try clear c2
    try clear p2
    try clear c3
    try clear c7
    try clear c9
    try clear c10
    try clear c15
    try clear c16
    try clear c17
    try clear c21
    try clear c23
    try clear c24
    try clear c25
    try clear c28
    try clear c29
    try clear c32
    try clear c33
    try clear c34
    try clear hcz11_0
    try clear hcz11_1
    try clear hcz18_0
    try clear hcz18_1
    try clear hcz26_0
    try clear hcz26_1
    try clear hcz30_0
    try clear hcz30_1
    try clear hcz35_0
    try clear hcz35_1
    try clear hfz11_0
    try clear hfz11_1
    try clear hfz18_0
    try clear hfz18_1
    try clear hfz26_0
    try clear hfz26_1
    try clear hfz30_0
    try clear hfz30_1
    try clear hfz35_0
    try clear hfz35_1
    obtain ⟨kq, x18_4, rfl, HA, HJ4, HO_1057000, HO_1057001, BK1047, BK1048, BK1049, BK1056, HB⟩ := hcut
    cases kq with
    | zero => exact absurd HA.out (by simp [inner_Inner_Absorb.j0])
    | succ kj4 =>
      have H := HA.out
      clear HA
      simp only [inner_Inner_Absorb.j0] at H
      by_cases c37 : x18_4 = true
      · subst c37
        have H1 : (some (t1050, t1053)) = some (r1, r2) := by rw [if_pos rfl] at H; exact H
        clear H
        have H := H1
        clear H1
        simp only [Option.some.injEq, Prod.mk.injEq] at H
        obtain ⟨rfl, rfl⟩ := H
        have hnb38 := NB1056_1047.out
        have hnc38 := NB1047_1056.out
        have hnb39 := NB1056_1048.out
        have hnc39 := NB1048_1056.out
        have hnb40 := NB1056_1049.out
        have hnc40 := NB1049_1056.out
        have hcz41_0 : wc.cell? ⟨gb1056, 0, none⟩ = some (.slice Ao14 t1050.length co14) := (blk_cell BK1056.out 0).trans rfl
        have hcz41_1 : wc.cell? ⟨gb1056, 1, none⟩ = some (.slice Ao19 t1053.length co19) := (blk_cell BK1056.out 1).trans rfl
        have hfz41_0 := blk_frozen BK1056.out 0
        have hfz41_1 := blk_frozen BK1056.out 1
        have hnb42 := NB1049_1047.out
        have hnc42 := NB1047_1049.out
        have hnb43 := NB1049_1048.out
        have hnc43 := NB1048_1049.out
        have hcz44_0 : wc.cell? ⟨gb1049, 0, none⟩ = some (.slice none 0 0) := (blk_cell BK1049.out 0).trans rfl
        have hcz44_1 : wc.cell? ⟨gb1049, 1, none⟩ = some (.slice none 0 0) := (blk_cell BK1049.out 1).trans rfl
        have hfz44_0 := blk_frozen BK1049.out 0
        have hfz44_1 := blk_frozen BK1049.out 1
        go_wp2
        refine bodyPost_ret (results_cell_row rfl _ _ gb1049 26 #[.slice Ao14 t1050.length co14, .slice Ao19 t1053.length co19] (0, 0) _ rfl (by (with_reducible repeat (first | refine blk_drewN ?_ _ | refine blk_drew ?_ | refine blk_alloc ?_ _)); refine blk_put (cs := #[.slice Ao14 t1050.length co14, .slice none 0 0]) ?_ 1 _ rfl; (with_reducible repeat (first | refine blk_drewN ?_ _ | refine blk_drew ?_ | refine blk_alloc ?_ _)); refine blk_put (cs := #[.slice none 0 0, .slice none 0 0]) ?_ 0 _ rfl; (with_reducible repeat (first | refine blk_drewN ?_ _ | refine blk_drew ?_ | refine blk_alloc ?_ _)); exact BK1049.out) Try.underlying26 rfl (by kernel_rfl)) rfl ?_
        exact ⟨_, _, by first | rfl | (simp [errW_none, errW_some] <;> rfl) | (simp [*, errW_none, errW_some] <;> rfl), by (with_reducible repeat (first | apply Kd.R_alloc | apply Kd.R_drewN | apply Kd.R_drew)); exact Kd.R_mono (Kd.R_far (p := ⟨gb1049, 1, none⟩) (Kd.R_far (p := ⟨gb1049, 0, none⟩) (Kd.R_types HO_1057000.out BK1049.out (by decide)) (fun _ hk => hk.2) (.slice Ao14 t1050.length co14)) (fun _ hk => hk.2) (.slice Ao19 t1053.length co19)) (fun _ hk => trivial), by (with_reducible repeat (first | apply Kd.R_alloc | apply Kd.R_drewN | apply Kd.R_drew)); exact Kd.R_mono (Kd.R_far (p := ⟨gb1049, 1, none⟩) (Kd.R_far (p := ⟨gb1049, 0, none⟩) (Kd.R_types HO_1057001.out BK1049.out (by decide)) (fun _ hk => hk.2) (.slice Ao14 t1050.length co14)) (fun _ hk => hk.2) (.slice Ao19 t1053.length co19)) (fun _ hk => trivial), by repeat (first | (with_reducible first | exact HB.out | apply below_alloc | apply pw_below_drewN | apply below_drew1 | refine below_set ?_ GE1047.out | refine below_set ?_ GE1048.out | refine below_set ?_ GE1049.out | refine below_set ?_ GE1056.out) | exact HB.out)⟩
      · replace c37 := Bool.eq_false_iff.mpr c37
        subst c37
        have H1 : ((ref_Ref_113.f t1053 a1 (wrap64 (a1 + 1)) l2_1).bind fun t1059 => ((slices_Insert_int64_int64.f t1050 a1 l2_0).bind fun t1062 => (some (t1062, t1059)))) = some (r1, r2) := by rw [if_neg (show ¬ (false = true) by decide)] at H; exact H
        clear H
        have H := H1
        clear H1
        replace H := Option.bind_eq_some_iff.mp H
        obtain ⟨t1059, A450, H⟩ := H
        replace H : ((slices_Insert_int64_int64.f t1050 a1 l2_0).bind fun t1062 => (some (t1062, t1059))) = some (r1, r2) := H
        have A45 := Aside0.mk A450
        clear A450
        replace H := Option.bind_eq_some_iff.mp H
        obtain ⟨t1062, A460, H⟩ := H
        replace H : (some (t1062, t1059)) = some (r1, r2) := H
        have A46 := Aside0.mk A460
        clear A460
        simp only [Option.some.injEq, Prod.mk.injEq] at H
        obtain ⟨rfl, rfl⟩ := H
        have hnb47 := NB1056_1047.out
        have hnc47 := NB1047_1056.out
        have hnb48 := NB1056_1048.out
        have hnc48 := NB1048_1056.out
        have hnb49 := NB1056_1049.out
        have hnc49 := NB1049_1056.out
        have hcz50_0 : wc.cell? ⟨gb1056, 0, none⟩ = some (.slice Ao14 t1050.length co14) := (blk_cell BK1056.out 0).trans rfl
        have hcz50_1 : wc.cell? ⟨gb1056, 1, none⟩ = some (.slice Ao19 t1053.length co19) := (blk_cell BK1056.out 1).trans rfl
        have hfz50_0 := blk_frozen BK1056.out 0
        have hfz50_1 := blk_frozen BK1056.out 1
        have hnb51 := NB1048_1047.out
        have hnc51 := NB1047_1048.out
        have hnb52 := NB1048_1049.out
        have hnc52 := NB1049_1048.out
        have hcz53_0 : wc.cell? ⟨gb1048, 0, none⟩ = some (.slice A2_0 l2_0.length c2_0) := (blk_cell BK1048.out 0).trans rfl
        have hcz53_1 : wc.cell? ⟨gb1048, 1, none⟩ = some (.slice A2_1 l2_1.length c2_1) := (blk_cell BK1048.out 1).trans rfl
        have hfz53_0 := blk_frozen BK1048.out 0
        have hfz53_1 := blk_frozen BK1048.out 1
        go_wp2_with (first | ((with_reducible refine gate_callee (f := 113) rfl ?_); refine goesL_ (some 27) rfl rfl Try.func113 (by kernel_rfl) rfl #[.slice Ao19 t1053.length co19, .int .i64 a1, .int .i64 (wrap64 (a1 + 1)), .slice A2_1 l2_1.length c2_1] rfl (by (try simp only [List.map_toArray, List.map_cons, List.map_nil]); first | done | rfl | (simp only [List.length_drop, List.length_take]; rfl)) ?_; (with_reducible refine (ref_Ref_113.calls (fun k_ => some k_ = (.slice Ao19 t1053.length co19 : Value).ownBlock) (.slice Ao19 t1053.length co19) t1053 a1 (wrap64 (a1 + 1)) _ _ l2_1 t1059 w _ ?side1 ?side2 ?side3 ?side4 A45.out).mono ?_); (case side1 => repeat (first | (with_reducible first | exact HB.out | apply below_alloc | apply pw_below_drewN | apply below_drew1 | refine below_set ?_ GE1047.out | refine below_set ?_ GE1048.out | refine below_set ?_ GE1049.out | refine below_set ?_ GE1056.out) | exact HB.out)); (case side2 => exact Kd.R_tight rfl HO_1057001.out); (case side3 => exact Kd.C_kept_came (Kd.heap_int .i64) HR2_1.out (by repeat (first | (with_reducible first | exact HB.out | apply below_alloc | apply pw_below_drewN | apply below_drew1 | refine below_set ?_ GE1047.out | refine below_set ?_ GE1048.out | refine below_set ?_ GE1049.out | refine below_set ?_ GE1056.out) | exact HB.out)) (fun k_ hs_ => (fun e_ => Kd.R_base HO_1057001.out k_ e_.symm) hs_)); (case side4 => exact HC2_1.out); rintro e w54 ⟨v1060, rfl, ho0, hb, hkp⟩; refine ⟨_, rfl, ?_⟩; have n0_ := Aside0.mk (Kd.R_mono (ok' := fun k_ => True) (Kd.R_keptB ((Kd.R_apart' HO_1057000.out (Kd.R_typed HO_1057001.out) (by decide))) hkp (fun k_ hk_ hs_ => (hk_.2) hs_)) (fun k_ hk_ => trivial)); have n1_ := Aside0.mk (blk_kept (by (with_reducible repeat (first | refine blk_drewN ?_ _ | refine blk_drew ?_ | refine blk_alloc ?_ _)); exact BK1047.out) hkp (fun hs_ => (fun e_ => (Kd.R_ne HO_1057001.out BK1047.out (by decide)) e_) hs_)); have n2_ := Aside0.mk (blk_kept (by (with_reducible repeat (first | refine blk_drewN ?_ _ | refine blk_drew ?_ | refine blk_alloc ?_ _)); exact BK1048.out) hkp (fun hs_ => (fun e_ => (Kd.R_ne HO_1057001.out BK1048.out (by decide)) e_) hs_)); have n3_ := Aside0.mk (blk_kept (by (with_reducible repeat (first | refine blk_drewN ?_ _ | refine blk_drew ?_ | refine blk_alloc ?_ _)); exact BK1049.out) hkp (fun hs_ => (fun e_ => (Kd.R_ne HO_1057001.out BK1049.out (by decide)) e_) hs_)); have n4_ := Aside0.mk (blk_kept (by (with_reducible repeat (first | refine blk_drewN ?_ _ | refine blk_drew ?_ | refine blk_alloc ?_ _)); exact BK1056.out) hkp (fun hs_ => (fun e_ => (Kd.R_ne HO_1057001.out BK1056.out (by decide)) e_) hs_)); have n5_ := Aside0.mk (Kd.R_mono (ok' := fun k_ => True) ho0 (fun k_ hk_ => trivial)); have n6_ := Aside0.mk (hb); clear HO_1057000; clear BK1047; clear BK1048; clear BK1049; clear BK1056; clear HB; clear HO_1057001; have HO_1057000 := n0_; have BK1047 := n1_; have BK1048 := n2_; have BK1049 := n3_; have BK1056 := n4_; have HO1061 := n5_; have HB := n6_; clear n0_ n1_ n2_ n3_ n4_ n5_ n6_; (try clear hb); (try clear hkp); (try clear ho0); obtain ⟨Ao55, co55, eo55⟩ := Kd.R_slice HO1061.out; subst eo55; have hcz56_0 : w54.cell? ⟨gb1056, 0, none⟩ = some (.slice Ao14 t1050.length co14) := (blk_cell BK1056.out 0).trans rfl; have hcz56_1 : w54.cell? ⟨gb1056, 1, none⟩ = some (.slice Ao19 t1053.length co19) := (blk_cell BK1056.out 1).trans rfl; have hfz56_0 := blk_frozen BK1056.out 0; have hfz56_1 := blk_frozen BK1056.out 1) | ((with_reducible refine gate_store (t := 24) (p := 28) rfl ?_); refine store_event (t := 24) (p := 28) (v := ?vo_w57) (w1 := (w54.setCell ⟨gb1056, 1, none⟩ (.slice Ao55 t1059.length co55))) ?hg ?ho ?hn ?hr ?_; (case ho => rfl); (case hg => rfl); (case hn => rfl); (case hr => first | (go_simp; done) | (go_simp; rfl)); intro w57 hw; have n0_ : Aside0 (Kd.R (Kd.int .i64) 2 w57 w.heap.size (fun _ => True) (.slice Ao14 t1050.length co14) t1050) := ⟨(by rw [hw]; exact (by (with_reducible repeat (first | apply Kd.R_alloc | apply Kd.R_drewN | apply Kd.R_drew)); exact Kd.R_mono (Kd.R_far (p := ⟨gb1056, 1, none⟩) (Kd.R_types HO_1057000.out BK1056.out (by decide)) (fun _ hk => hk.2) (.slice Ao55 t1059.length co55)) (fun _ hk => trivial)))⟩; have n1_ : Aside0 (Kd.R (Kd.int .i64) 47 w57 w.heap.size (fun _ => True) (.slice Ao55 t1059.length co55) t1059) := ⟨(by rw [hw]; exact (by (with_reducible repeat (first | apply Kd.R_alloc | apply Kd.R_drewN | apply Kd.R_drew)); exact Kd.R_mono (Kd.R_far (p := ⟨gb1056, 1, none⟩) (Kd.R_types HO1061.out BK1056.out (by decide)) (fun _ hk => hk.2) (.slice Ao55 t1059.length co55)) (fun _ hk => trivial)))⟩; have n2_ : Aside0 (w57.heap[gb1047]? = some (.cells #[.slice A0_0 l0_0.length c0_0, .slice A0_1 l0_1.length c0_1] 26 (0, 0))) := ⟨(by rw [hw]; exact (by (with_reducible repeat (first | refine blk_drewN ?_ _ | refine blk_drew ?_ | refine blk_alloc ?_ _)); refine blk_far ?_ NB1047_1056.out _; (with_reducible repeat (first | refine blk_drewN ?_ _ | refine blk_drew ?_ | refine blk_alloc ?_ _)); exact BK1047.out))⟩; have n3_ : Aside0 (w57.heap[gb1048]? = some (.cells #[.slice A2_0 l2_0.length c2_0, .slice A2_1 l2_1.length c2_1] 26 (0, 0))) := ⟨(by rw [hw]; exact (by (with_reducible repeat (first | refine blk_drewN ?_ _ | refine blk_drew ?_ | refine blk_alloc ?_ _)); refine blk_far ?_ NB1048_1056.out _; (with_reducible repeat (first | refine blk_drewN ?_ _ | refine blk_drew ?_ | refine blk_alloc ?_ _)); exact BK1048.out))⟩; have n4_ : Aside0 (w57.heap[gb1049]? = some (.cells #[.slice none 0 0, .slice none 0 0] 26 (0, 0))) := ⟨(by rw [hw]; exact (by (with_reducible repeat (first | refine blk_drewN ?_ _ | refine blk_drew ?_ | refine blk_alloc ?_ _)); refine blk_far ?_ NB1049_1056.out _; (with_reducible repeat (first | refine blk_drewN ?_ _ | refine blk_drew ?_ | refine blk_alloc ?_ _)); exact BK1049.out))⟩; have n5_ : Aside0 (w57.heap[gb1056]? = some (.cells #[.slice Ao14 t1050.length co14, .slice Ao55 t1059.length co55] 26 (0, 0))) := ⟨(by rw [hw]; exact (by (with_reducible repeat (first | refine blk_drewN ?_ _ | refine blk_drew ?_ | refine blk_alloc ?_ _)); refine blk_put (cs := #[.slice Ao14 t1050.length co14, .slice Ao19 t1053.length co19]) ?_ 1 _ rfl; (with_reducible repeat (first | refine blk_drewN ?_ _ | refine blk_drew ?_ | refine blk_alloc ?_ _)); exact BK1056.out))⟩; have n6_ : Aside0 (Below w.heap.size w w57) := ⟨(by rw [hw]; exact (by repeat (first | (with_reducible first | exact HB.out | apply below_alloc | apply pw_below_drewN | apply below_drew1 | refine below_set ?_ GE1047.out | refine below_set ?_ GE1048.out | refine below_set ?_ GE1049.out | refine below_set ?_ GE1056.out) | exact HB.out)))⟩; clear hw; clear HO_1057000; clear HO1061; clear BK1047; clear BK1048; clear BK1049; clear BK1056; clear HB; have HO_1057000 := n0_; have HO1061 := n1_; have BK1047 := n2_; have BK1048 := n3_; have BK1049 := n4_; have BK1056 := n5_; have HB := n6_; clear n0_ n1_ n2_ n3_ n4_ n5_ n6_; have hcz58_0 : w57.cell? ⟨gb1056, 0, none⟩ = some (.slice Ao14 t1050.length co14) := (blk_cell BK1056.out 0).trans rfl; have hcz58_1 : w57.cell? ⟨gb1056, 1, none⟩ = some (.slice Ao55 t1059.length co55) := (blk_cell BK1056.out 1).trans rfl; have hfz58_0 := blk_frozen BK1056.out 0; have hfz58_1 := blk_frozen BK1056.out 1; have hcz59_0 : w57.cell? ⟨gb1048, 0, none⟩ = some (.slice A2_0 l2_0.length c2_0) := (blk_cell BK1048.out 0).trans rfl; have hcz59_1 : w57.cell? ⟨gb1048, 1, none⟩ = some (.slice A2_1 l2_1.length c2_1) := (blk_cell BK1048.out 1).trans rfl; have hfz59_0 := blk_frozen BK1048.out 0; have hfz59_1 := blk_frozen BK1048.out 1) | ((with_reducible refine gate_callee (f := 114) rfl ?_); refine goesL_ (some 34) rfl rfl Try.func114 (by kernel_rfl) rfl #[.slice Ao14 t1050.length co14, .int .i64 a1, .slice A2_0 l2_0.length c2_0] rfl (by (try simp only [List.map_toArray, List.map_cons, List.map_nil]); first | done | rfl | (simp only [List.length_drop, List.length_take]; rfl)) ?_; (with_reducible refine (slices_Insert_int64_int64.calls (fun k_ => some k_ = (.slice Ao14 t1050.length co14 : Value).ownBlock) (.slice Ao14 t1050.length co14) t1050 a1 _ _ l2_0 t1062 w _ ?side1 ?side2 ?side3 ?side4 A46.out).mono ?_); (case side1 => repeat (first | (with_reducible first | exact HB.out | apply below_alloc | apply pw_below_drewN | apply below_drew1 | refine below_set ?_ GE1047.out | refine below_set ?_ GE1048.out | refine below_set ?_ GE1049.out | refine below_set ?_ GE1056.out) | exact HB.out)); (case side2 => exact Kd.R_tight rfl HO_1057000.out); (case side3 => exact Kd.C_kept_came (Kd.heap_int .i64) HR2_0.out (by repeat (first | (with_reducible first | exact HB.out | apply below_alloc | apply pw_below_drewN | apply below_drew1 | refine below_set ?_ GE1047.out | refine below_set ?_ GE1048.out | refine below_set ?_ GE1049.out | refine below_set ?_ GE1056.out) | exact HB.out)) (fun k_ hs_ => (fun e_ => Kd.R_base HO_1057000.out k_ e_.symm) hs_)); (case side4 => exact HC2_0.out); rintro e w60 ⟨v1063, rfl, ho0, hb, hkp⟩; refine ⟨_, rfl, ?_⟩; have n0_ := Aside0.mk (blk_kept (by (with_reducible repeat (first | refine blk_drewN ?_ _ | refine blk_drew ?_ | refine blk_alloc ?_ _)); exact BK1047.out) hkp (fun hs_ => (fun e_ => (Kd.R_ne HO_1057000.out BK1047.out (by decide)) e_) hs_)); have n1_ := Aside0.mk (blk_kept (by (with_reducible repeat (first | refine blk_drewN ?_ _ | refine blk_drew ?_ | refine blk_alloc ?_ _)); exact BK1048.out) hkp (fun hs_ => (fun e_ => (Kd.R_ne HO_1057000.out BK1048.out (by decide)) e_) hs_)); have n2_ := Aside0.mk (blk_kept (by (with_reducible repeat (first | refine blk_drewN ?_ _ | refine blk_drew ?_ | refine blk_alloc ?_ _)); exact BK1049.out) hkp (fun hs_ => (fun e_ => (Kd.R_ne HO_1057000.out BK1049.out (by decide)) e_) hs_)); have n3_ := Aside0.mk (blk_kept (by (with_reducible repeat (first | refine blk_drewN ?_ _ | refine blk_drew ?_ | refine blk_alloc ?_ _)); exact BK1056.out) hkp (fun hs_ => (fun e_ => (Kd.R_ne HO_1057000.out BK1056.out (by decide)) e_) hs_)); have n4_ := Aside0.mk (Kd.R_mono (ok' := fun k_ => True) (Kd.R_keptB ((Kd.R_apart' HO1061.out (Kd.R_typed HO_1057000.out) (by decide))) hkp (fun k_ hk_ hs_ => (hk_.2) hs_)) (fun k_ hk_ => trivial)); have n5_ := Aside0.mk (Kd.R_mono (ok' := fun k_ => True) ho0 (fun k_ hk_ => trivial)); have n6_ := Aside0.mk (hb); clear BK1047; clear BK1048; clear BK1049; clear BK1056; clear HO1061; clear HB; clear HO_1057000; have BK1047 := n0_; have BK1048 := n1_; have BK1049 := n2_; have BK1056 := n3_; have HO1061 := n4_; have HO1064 := n5_; have HB := n6_; clear n0_ n1_ n2_ n3_ n4_ n5_ n6_; (try clear hb); (try clear hkp); (try clear ho0); obtain ⟨Ao61, co61, eo61⟩ := Kd.R_slice HO1064.out; subst eo61; have hcz62_0 : w60.cell? ⟨gb1056, 0, none⟩ = some (.slice Ao14 t1050.length co14) := (blk_cell BK1056.out 0).trans rfl; have hcz62_1 : w60.cell? ⟨gb1056, 1, none⟩ = some (.slice Ao55 t1059.length co55) := (blk_cell BK1056.out 1).trans rfl; have hfz62_0 := blk_frozen BK1056.out 0; have hfz62_1 := blk_frozen BK1056.out 1; have hnb63 := NB1049_1047.out; have hnc63 := NB1047_1049.out; have hcz64_0 : w60.cell? ⟨gb1049, 0, none⟩ = some (.slice none 0 0) := (blk_cell BK1049.out 0).trans rfl; have hcz64_1 : w60.cell? ⟨gb1049, 1, none⟩ = some (.slice none 0 0) := (blk_cell BK1049.out 1).trans rfl; have hfz64_0 := blk_frozen BK1049.out 0; have hfz64_1 := blk_frozen BK1049.out 1))
        refine bodyPost_ret (results_cell_row rfl _ _ gb1049 26 #[.slice Ao61 t1062.length co61, .slice Ao55 t1059.length co55] (0, 0) _ rfl (by (with_reducible repeat (first | refine blk_drewN ?_ _ | refine blk_drew ?_ | refine blk_alloc ?_ _)); refine blk_put (cs := #[.slice Ao61 t1062.length co61, .slice none 0 0]) ?_ 1 _ rfl; (with_reducible repeat (first | refine blk_drewN ?_ _ | refine blk_drew ?_ | refine blk_alloc ?_ _)); refine blk_put (cs := #[.slice none 0 0, .slice none 0 0]) ?_ 0 _ rfl; (with_reducible repeat (first | refine blk_drewN ?_ _ | refine blk_drew ?_ | refine blk_alloc ?_ _)); refine blk_far ?_ NB1049_1056.out _; (with_reducible repeat (first | refine blk_drewN ?_ _ | refine blk_drew ?_ | refine blk_alloc ?_ _)); exact BK1049.out) Try.underlying26 rfl (by kernel_rfl)) rfl ?_
        exact ⟨_, _, by first | rfl | (simp [errW_none, errW_some] <;> rfl) | (simp [*, errW_none, errW_some] <;> rfl), by (with_reducible repeat (first | apply Kd.R_alloc | apply Kd.R_drewN | apply Kd.R_drew)); exact Kd.R_mono (Kd.R_far (p := ⟨gb1049, 1, none⟩) (Kd.R_far (p := ⟨gb1049, 0, none⟩) (Kd.R_far (p := ⟨gb1056, 0, none⟩) (Kd.R_types (Kd.R_types HO1064.out BK1056.out (by decide)) BK1049.out (by decide)) (fun _ hk => hk.1.2) (.slice Ao61 t1062.length co61)) (fun _ hk => hk.2) (.slice Ao61 t1062.length co61)) (fun _ hk => hk.2) (.slice Ao55 t1059.length co55)) (fun _ hk => trivial), by (with_reducible repeat (first | apply Kd.R_alloc | apply Kd.R_drewN | apply Kd.R_drew)); exact Kd.R_mono (Kd.R_far (p := ⟨gb1049, 1, none⟩) (Kd.R_far (p := ⟨gb1049, 0, none⟩) (Kd.R_far (p := ⟨gb1056, 0, none⟩) (Kd.R_types (Kd.R_types HO1061.out BK1056.out (by decide)) BK1049.out (by decide)) (fun _ hk => hk.1.2) (.slice Ao61 t1062.length co61)) (fun _ hk => hk.2) (.slice Ao61 t1062.length co61)) (fun _ hk => hk.2) (.slice Ao55 t1059.length co55)) (fun _ hk => trivial), by repeat (first | (with_reducible first | exact HB.out | apply below_alloc | apply pw_below_drewN | apply below_drew1 | refine below_set ?_ GE1047.out | refine below_set ?_ GE1048.out | refine below_set ?_ GE1049.out | refine below_set ?_ GE1056.out) | exact HB.out)⟩

end Go.Proofs.Ytkoiffkonjpoiaa.Q
namespace Go.Proofs.Ytkoiffkonjpoiaa.Q
open Go.RowKit Go.Proofs.YtkoiffkonjpoiaaW.PrintWords Go.Proofs.YtkoiffkonjpoiaaW.PrintLast Go.Proofs.YtkoiffkonjpoiaaW.PrintMore Go.Proofs.YtkoiffkonjpoiaaX
attribute [local go_sem] max2_int min2_int max_two min_two max_three min_three max_four min_four   -- for this text's walks alone
set_option linter.unusedVariables false
set_option linter.unusedSimpArgs false

/-- Without the elements from a1 on up to a2 (one at least). -/
def slices_Delete_int64_int64.f (l0 : List Int) (a1 a2 : Int) : Option (List Int) := if 0 ≤ a1 ∧ a1 < a2 ∧ a2 ≤ (l0.length : Int) then some (l0.take a1.toNat ++ l0.drop a2.toNat) else none
set_option maxHeartbeats 4000000 in
set_option maxRecDepth 100000 in
theorem slices_Delete_int64_int64.low (g n cap i j : Nat) (cur : Array Value) (w : World) (hg : w.heap[g]? = some (.cells cur 2 (0, 0))) (hsz : cur.size = (cap)) (hn : n ≤ cap) (hm : cap ≤ 9223372036854775807) (hij : i < j) (hj : j ≤ n) (h1 : ∀ u ∈ cur.toList.take (n), u.oneCell' = true) :
    Calls Try.prog 116 #[.slice (some ⟨g, 0, none⟩) n cap, .int .i64 i, .int .i64 j] w fun e w' => e = .returned (.slice (some ⟨g, 0, none⟩) (i + (n - j)) cap) ∧ w' = (w.drew.setCells g (i) ((cur.toList.take (n)).drop (j))).setCells g ((i + (n - j))) (Builtin.zeroCells (Value.int .i64 0).cells (n - (i + (n - j)))).toList := by
  obtain ⟨i0, hi0, _, hz1, _⟩ := info_parts info2
  obtain ⟨news, hnews⟩ : ∃ news, news = (cur.toList.take (n)).drop (j) := ⟨_, rfl⟩
  have hlen : news.length = (n - j) := by rw [hnews]; simp; omega
  obtain ⟨A, hA, hsrc⟩ : ∃ A : Addr, (if cap = j then some (⟨g, 0, none⟩ : Addr) else some ⟨g, (j), none⟩) = some A ∧ Hid (∀ t u, news[t]? = some u → w.drew.cell? (A.add t) = some u) := by
    by_cases h : cap = j
    · refine ⟨⟨g, 0, none⟩, by simp [h], Lib.hid fun t u hu => ?_⟩
      have h0 : news.length = 0 := by rw [hlen]; omega
      rw [List.length_eq_zero_iff.1 h0] at hu
      simp at hu
    · refine ⟨⟨g, (j), none⟩, by simp [h], Lib.hid fun t u hu => ?_⟩
      rw [add_lit']
      show w.cell? _ = _
      rw [cells_cell hg]
      rw [hnews, List.getElem?_drop, List.getElem?_take] at hu
      split at hu
      · exact hu
      · cases hu
  have s1 : Hid (news.length = (n - j)) := Lib.hid hlen
  have s2 : Hid (∀ u ∈ news, u.oneCell' = true) := Lib.hid (by
    intro u hu
    rw [hnews] at hu
    exact h1 u (List.mem_of_mem_drop hu))
  have s3 : Hid (∀ t, t < news.length → (w.drew.cell? ⟨g, 0 + (i) + t, none⟩).isSome = true ∧ w.drew.frozen? ⟨g, 0 + (i) + t, none⟩ = false) := Lib.hid (by
    intro t ht
    rw [hlen] at ht
    exact ⟨cells_some (w := w) hg (by omega), cells_free (w := w) hg _⟩)
  obtain ⟨W1, hW1⟩ : ∃ W1, W1 = w.drew.setCells g (0 + (i)) news := ⟨_, rfl⟩
  obtain ⟨cur1, g1, g2, _⟩ := setCells_heap_at g news (0 + (i)) w.drew cur 2 (0, 0) hg (by rw [hlen]; omega)
  rw [← hW1] at g1
  have hcl : ∀ ty c, (Builtin.clear_ #[22] ty #[.slice (some ⟨g, (i + (n - j)), none⟩) (n - (i + (n - j))) c]).run Try.prog W1 = .ok (.tuple #[]) (W1.setCells g ((i + (n - j))) (Builtin.zeroCells (Value.int .i64 0).cells (n - (i + (n - j)))).toList) :=
    fun ty c => run_clear_cells W1 22 2 ty (Value.int .i64 0) Try.underlying22 Try.zeroValue2 g _ _ c (by omega) (zeroCells_one _ _ (by simp [Value.cells, Value.oneCell'])) (fun t ht => cells_some g1 (by rw [zeroCells_len] at ht; simp [Value.cells] at ht; omega)) (fun t _ => cells_free g1 _)
  have hW : Hid (W1 = w.drew.setCells g (0 + (i)) news) := Lib.hid hW1
  have hic : i ≤ cap := by omega
  have hjc : j ≤ cap := by omega
  rw [← hnews]
  rw [show w.drew.setCells g (i) news = W1 from by rw [hW1, Nat.zero_add]]
  clear hW1 hnews hlen g1 g2 hg hsz h1
  go_enter Try.func116, Try.ntmps116
  go_wp2_with fail
  go_region_law (refine step_append_room rfl (.tmp 22) (.tmp 25) 22 rfl 2 i0 1 Try.underlying22 hi0 hz1 g 0 i cap (by simp [Act.eval, Act.put]) A (n - j) (cap - j) news (by simp [Act.eval, Act.put]) (by have := s1.out; omega) hsrc.out s2.out (by omega) (by have := s3.out; (try simp only [Nat.mul_one]); exact this) ?_; (try simp only [Nat.mul_one]); rw [← hW.out])
  go_wp2
  go_ret
  exact ⟨rfl, rfl⟩
set_option maxHeartbeats 1000000 in
theorem slices_Delete_int64_int64.calls (P0_ : Nat → Prop) (u9000_ : Value) (l0 : List Int) (a1 : Int) (a2 : Int) (r : List Int) (w0 w : World) (hB : Below w0.heap.size w0 w) (ho0 : Kd.R (Kd.int .i64) 2 w w0.heap.size P0_ u9000_ l0) (h : slices_Delete_int64_int64.f l0 a1 a2 = some r) :
    Calls Try.prog 116 #[u9000_, .int .i64 a1, .int .i64 a2] w fun e w' => ∃ v0_ : Value, e = .returned v0_ ∧ Kd.R (Kd.int .i64) 2 w' w0.heap.size (fun k_ => (P0_ k_ ∨ w.heap.size ≤ k_)) v0_ r ∧ Below w0.heap.size w0 w' ∧ Kept w w' (fun k_ => P0_ k_) := by
  unfold slices_Delete_int64_int64.f at h
  split at h
  · rename_i hc
    obtain ⟨h0, h1, h2⟩ := hc
    obtain rfl := Option.some.inj h
    obtain ⟨i, rfl⟩ := Int.eq_ofNat_of_zero_le h0
    obtain ⟨j, rfl⟩ := Int.eq_ofNat_of_zero_le (show 0 ≤ a2 by omega)
    rw [Int.toNat_natCast, Int.toNat_natCast]
    obtain ⟨hok, hl, ho⟩ := (R_iff (flat_int .i64)).1 ho0
    rcases ho with ⟨rfl, hz⟩ | ⟨g, cap, cur, rfl, hb, hg, hn, hm, hs, ht⟩
    · omega
    · have hP : P0_ g := hok g rfl
      have hs' : cur.size = cap * 1 := hs
      have ht' : cur.toList.take (l0.length * 1) = l0.flatMap (fun x => [Value.int .i64 x]) := ht
      have hij : i < j := by omega
      have hjl : j ≤ l0.length := by omega
      have hm' : cap ≤ 9223372036854775807 := by simpa [maxLen] using hm
      have hlow : Calls Try.prog 116 #[.slice (some ⟨g, 0, none⟩) l0.length cap, .int .i64 i, .int .i64 j] w fun e w' => e = .returned (.slice (some ⟨g, 0, none⟩) (i + (l0.length - j)) cap) ∧ w' = (w.drew.setCells g (i * 1) ((cur.toList.take (l0.length * 1)).drop (j * 1))).setCells g ((i + (l0.length - j)) * 1) (Builtin.zeroCells (Value.int .i64 0).cells (l0.length - (i + (l0.length - j)))).toList := by
        have hones : ∀ u ∈ cur.toList.take (l0.length * 1), u.oneCell' = true := by rw [ht']; exact Flat.ones (flat_int .i64) l0
        (try simp only [Nat.mul_one] at hones hs' ⊢)
        exact slices_Delete_int64_int64.low g l0.length cap i j cur w hg hs' hn hm' hij hjl hones
      refine hlow.mono ?_
      rintro e w' ⟨rfl, rfl⟩
      rw [ht']
      obtain ⟨cur1, g1, g2, g3⟩ := setCells_heap_at g ((l0.flatMap (fun x => [Value.int .i64 x])).drop (j * 1)) (i * 1) w.drew cur 2 (0, 0) hg (by rw [List.length_drop, flatMap_length (flat_int .i64), hs']; show i * 1 + (l0.length * 1 - j * 1) ≤ _; omega)
      obtain ⟨cur2, k1, k2, k3⟩ := setCells_heap_at g (Builtin.zeroCells (Value.int .i64 0).cells (l0.length - (i + (l0.length - j)))).toList ((i + (l0.length - j)) * 1) _ cur1 2 (0, 0) g1 (by rw [zeroCells_len, g2, hs']; simp [Value.cells]; omega)
      have hlen : (l0.take i ++ l0.drop j).length = i + (l0.length - j) := by simp; omega
      have hcells : cur2.toList.take ((i + (l0.length - j)) * 1) = (l0.take i ++ l0.drop j).flatMap (fun x => [Value.int .i64 x]) := by
        have e1 : ((l0.flatMap (fun x => [Value.int .i64 x])).drop (j * 1)) = (l0.drop j).flatMap (fun x => [Value.int .i64 x]) := flatMap_drop (flat_int .i64) l0 j
        have e2 : cur.toList.take (i * 1) = (l0.take i).flatMap (fun x => [Value.int .i64 x]) := by
          have : (l0.flatMap (fun x => [Value.int .i64 x])).take (i * 1) = (l0.take i).flatMap (fun x => [Value.int .i64 x]) := flatMap_take (flat_int .i64) l0 i
          rw [← this, ← ht', List.take_take]
          congr 1
          omega
        have e3 : ((l0.drop j).flatMap (fun x => [Value.int .i64 x])).length = (l0.length - j) * 1 := by rw [flatMap_length (flat_int .i64), List.length_drop]; rfl
        have e5 : cur1.toList.length = cap * 1 := by simp [g2, hs']
        rw [k3, List.append_assoc, List.take_append_of_le_length (by rw [List.length_take, e5]; omega), List.take_take, Nat.min_self, g3, e1, e2, List.flatMap_append]
        have e4 : ((l0.take i).flatMap (fun x => [Value.int .i64 x]) ++ (l0.drop j).flatMap (fun x => [Value.int .i64 x])).length = (i + (l0.length - j)) * 1 := by
          rw [← List.flatMap_append, flatMap_length (flat_int .i64), hlen]; rfl
        exact List.take_left' e4
      refine ⟨_, rfl, (R_iff (flat_int .i64)).2 ⟨fun k hk => ?_, by rw [flatMap_length (flat_int .i64)], .inr ⟨g, cap, cur2, by rw [hlen], hb, k1, by rw [hlen]; omega, hm, by rw [k2, g2]; exact hs, by rw [hlen]; exact hcells⟩⟩, ?_, ?_⟩
      · have : g = k := by simpa [Value.ownBlock] using hk
        subst this
        exact .inl hP
      · exact bel_setCells (bel_setCells (below_drew1 hB) hb _ _) hb _ _
      · exact kep_setCells (kep_setCells (Kept.drew (Kept.refl w _)) hP _ _) hP _ _
  · cases h

end Go.Proofs.Ytkoiffkonjpoiaa.Q
namespace Go.Proofs.Ytkoiffkonjpoiaa.Q
open Go.RowKit Go.Proofs.YtkoiffkonjpoiaaW.PrintWords Go.Proofs.YtkoiffkonjpoiaaW.PrintLast Go.Proofs.YtkoiffkonjpoiaaW.PrintMore Go.Proofs.YtkoiffkonjpoiaaX
attribute [local go_sem] max2_int min2_int max_two min_two max_three min_three max_four min_four   -- for this text's walks alone
set_option linter.unusedVariables false
set_option linter.unusedSimpArgs false

def inner_Inner_Merged.j0 : Nat → Int → Int → Bool → List Int → List Int → Option (List Int × List Int)
  | 0, _, _, _, _, _ => none
  | k + 1, x1, x2, x20, x1222000, x1222001 => if x20 = true then (some (x1222000, x1222001)) else ((ref_Ref_113.f x1222001 x1 (wrap64 (x1 + 2)) (([x2] : List Int))).bind fun t1227 => ((slices_Delete_int64_int64.f x1222000 x1 (wrap64 (x1 + 1))).bind fun t1230 => (some (t1230, t1227))))
def inner_Inner_Merged.f (k : Nat) (l0_0 : List Int) (l0_1 : List Int) (a1 : Int) (a2 : Int) : Option (List Int × List Int) := (inner_Inner_clone.f l0_0 l0_1).bind fun bt1215 => ((inner_Inner_in.f l0_0 l0_1 a1).bind fun t1222 => (if t1222 = true then ((inner_Inner_in.f l0_0 l0_1 (wrap64 (a1 + 1))).bind fun t1223 => (inner_Inner_Merged.j0 k a1 a2 (!t1223) bt1215.1 bt1215.2)) else (inner_Inner_Merged.j0 k a1 a2 true bt1215.1 bt1215.2)))
set_option maxHeartbeats 8000000 in
set_option maxRecDepth 100000 in
theorem inner_Inner_Merged.calls (k : Nat) (A0_0 : Option Addr) (c0_0 : Nat) (l0_0 : List Int) (A0_1 : Option Addr) (c0_1 : Nat) (l0_1 : List Int) (a1 : Int) (a2 : Int) (r1 : List Int) (r2 : List Int) (w : World) (hr0_0 : Kd.C (Kd.int .i64) w A0_0 l0_0.length l0_0) (hc0_0 : l0_0.length ≤ c0_0) (hr0_1 : Kd.C (Kd.int .i64) w A0_1 l0_1.length l0_1) (hc0_1 : l0_1.length ≤ c0_1) (h : inner_Inner_Merged.f k l0_0 l0_1 a1 a2 = some (r1, r2)) :
    Calls Try.prog 82 #[.agg #[.slice A0_0 l0_0.length c0_0, .slice A0_1 l0_1.length c0_1], .int .i64 a1, .int .i64 a2] w fun e w' => ∃ v0_ v1_ : Value, e = .returned (.agg #[v0_, v1_]) ∧ Kd.R (Kd.int .i64) 2 w' w.heap.size (fun _ => True) v0_ r1 ∧ Kd.R (Kd.int .i64) 47 w' w.heap.size (fun _ => True) v1_ r2 ∧ Below w.heap.size w w' := by
  have hu26 := Try.underlying26
  have HR0_0 := Aside0.mk hr0_0
  have HC0_0 := Aside0.mk hc0_0
  clear hr0_0 hc0_0
  have HR0_1 := Aside0.mk hr0_1
  have HC0_1 := Aside0.mk hc0_1
  clear hr0_1 hc0_1
  have HB := Aside0.mk (Below.refl w.heap.size w)
  have H : ((inner_Inner_clone.f l0_0 l0_1).bind fun bt1215 => ((inner_Inner_in.f l0_0 l0_1 a1).bind fun t1222 => (if t1222 = true then ((inner_Inner_in.f l0_0 l0_1 (wrap64 (a1 + 1))).bind fun t1223 => (inner_Inner_Merged.j0 k a1 a2 (!t1223) bt1215.1 bt1215.2)) else (inner_Inner_Merged.j0 k a1 a2 true bt1215.1 bt1215.2)))) = some (r1, r2) := h
  clear h
  replace H := Option.bind_eq_some_iff.mp H
  obtain ⟨⟨t1215, t1218⟩, A40, H⟩ := H
  replace H : ((inner_Inner_in.f l0_0 l0_1 a1).bind fun t1222 => (if t1222 = true then ((inner_Inner_in.f l0_0 l0_1 (wrap64 (a1 + 1))).bind fun t1223 => (inner_Inner_Merged.j0 k a1 a2 (!t1223) t1215 t1218)) else (inner_Inner_Merged.j0 k a1 a2 true t1215 t1218))) = some (r1, r2) := H
  have A4 := Aside0.mk A40
  clear A40
  have HC5 := Aside0.mk H
  clear H
  go_enter Try.func82, Try.ntmps82
  go_upto_region 2 with (first | ((with_reducible refine gate_dst (N := 3) rfl ?_); refine box_event ?hg (N := 3) ?hd (cs := #[.slice A0_0 l0_0.length c0_0, .slice A0_1 l0_1.length c0_1]) (t := 26) ?hr ?_; (case hd => rfl); (case hg => rfl); (case hr => first | (go_simp; done) | (go_simp; rfl)); intro gb1213 hg w6 hbox hb; have n0_ := Aside0.mk (below_step (by repeat (first | (with_reducible first | exact HB.out | apply below_alloc | apply pw_below_drewN | apply below_drew1) | exact HB.out)) hb); have n1_ := Aside0.mk (hbox); have n2_ := Aside0.mk ((by rw [hg]; exact (below_size (by repeat (first | (with_reducible first | exact HB.out | apply below_alloc | apply pw_below_drewN | apply below_drew1) | exact HB.out))) : w.heap.size ≤ gb1213)); have n3_ := Aside0.mk ((by rw [hg]; exact (below_size (by repeat (first | (with_reducible first | exact HB.out | apply below_alloc | apply pw_below_drewN | apply below_drew1) | exact HB.out))) : w.heap.size ≤ gb1213)); clear HB; have HB := n0_; have BK1213 := n1_; have GW1213 := n2_; have GE1213 := n3_; clear n0_ n1_ n2_ n3_; clear hb hbox hg) | ((with_reducible refine gate_dst (N := 6) rfl ?_); refine box_event ?hg (N := 6) ?hd (cs := #[.slice none 0 0, .slice none 0 0]) (t := 26) ?hr ?_; (case hd => rfl); (case hg => rfl); (case hr => first | (go_simp; done) | (go_simp; rfl)); intro gb1214 hg w7 hbox hb; have n0_ := Aside0.mk (blk_below (g := gb1213) (o := .cells #[.slice A0_0 l0_0.length c0_0, .slice A0_1 l0_1.length c0_1] 26 (0, 0)) (by (with_reducible repeat (first | refine blk_drewN ?_ _ | refine blk_drew ?_ | refine blk_alloc ?_ _)); exact BK1213.out) hb); have n1_ := Aside0.mk (below_step (by repeat (first | (with_reducible first | exact HB.out | apply below_alloc | apply pw_below_drewN | apply below_drew1 | refine below_set ?_ GE1213.out) | exact HB.out)) hb); have n2_ := Aside0.mk (hbox); have n3_ := Aside0.mk ((by rw [hg]; exact (below_size (by repeat (first | (with_reducible first | exact HB.out | apply below_alloc | apply pw_below_drewN | apply below_drew1 | refine below_set ?_ GE1213.out) | exact HB.out))) : w.heap.size ≤ gb1214)); have n4_ := Aside0.mk ((by rw [hg]; exact (below_size (by repeat (first | (with_reducible first | exact HB.out | apply below_alloc | apply pw_below_drewN | apply below_drew1 | refine below_set ?_ GE1213.out) | exact HB.out))) : w.heap.size ≤ gb1214)); have n5_ := Aside0.mk ((by rw [hg]; exact Nat.ne_of_lt (blk_lt (g := gb1213) (o := .cells #[.slice A0_0 l0_0.length c0_0, .slice A0_1 l0_1.length c0_1] 26 (0, 0)) (by (with_reducible repeat (first | refine blk_drewN ?_ _ | refine blk_drew ?_ | refine blk_alloc ?_ _)); exact BK1213.out)) : gb1213 ≠ gb1214)); have n6_ := Aside0.mk ((by rw [hg]; exact Nat.ne_of_gt (blk_lt (g := gb1213) (o := .cells #[.slice A0_0 l0_0.length c0_0, .slice A0_1 l0_1.length c0_1] 26 (0, 0)) (by (with_reducible repeat (first | refine blk_drewN ?_ _ | refine blk_drew ?_ | refine blk_alloc ?_ _)); exact BK1213.out)) : gb1214 ≠ gb1213)); clear BK1213; clear HB; have BK1213 := n0_; have HB := n1_; have BK1214 := n2_; have GW1214 := n3_; have GE1214 := n4_; have NB1213_1214 := n5_; have NB1214_1213 := n6_; clear n0_ n1_ n2_ n3_ n4_ n5_ n6_; clear hb hbox hg; have hnb8 := NB1213_1214.out; have hnc8 := NB1214_1213.out; have hcz9_0 : w7.cell? ⟨gb1213, 0, none⟩ = some (.slice A0_0 l0_0.length c0_0) := (blk_cell BK1213.out 0).trans rfl; have hcz9_1 : w7.cell? ⟨gb1213, 1, none⟩ = some (.slice A0_1 l0_1.length c0_1) := (blk_cell BK1213.out 1).trans rfl; have hfz9_0 := blk_frozen BK1213.out 0; have hfz9_1 := blk_frozen BK1213.out 1) | ((with_reducible refine gate_callee (f := 100) rfl ?_); refine goesL_ (some 9) rfl rfl Try.func100 (by kernel_rfl) rfl #[.agg #[.slice A0_0 l0_0.length c0_0, .slice A0_1 l0_1.length c0_1]] rfl (by (try simp only [List.map_toArray, List.map_cons, List.map_nil]); first | done | rfl | (simp only [List.length_drop, List.length_take]; rfl)) ?_; (with_reducible refine (inner_Inner_clone.calls _ _ l0_0 _ _ l0_1 t1215 t1218 _ ?side1 ?side2 ?side3 ?side4 A4.out).mono ?_); (case side1 => repeat (first | exact (Kd.C_below HR0_0.out HB.out) | (with_reducible refine Kd.C_alloc ?_ _) | (with_reducible refine Kd.C_drewN ?_ _) | (with_reducible refine Kd.C_drew ?_))); (case side2 => exact HC0_0.out); (case side3 => repeat (first | exact (Kd.C_below HR0_1.out HB.out) | (with_reducible refine Kd.C_alloc ?_ _) | (with_reducible refine Kd.C_drewN ?_ _) | (with_reducible refine Kd.C_drew ?_))); (case side4 => exact HC0_1.out); rintro e w10 ⟨v1216, v1219, rfl, ho0, ho1, hb⟩; refine ⟨_, rfl, ?_⟩; have n0_ := Aside0.mk (Kd.R_lower ho0 (below_size (by repeat (first | (with_reducible first | exact HB.out | apply below_alloc | apply pw_below_drewN | apply below_drew1 | refine below_set ?_ GE1213.out | refine below_set ?_ GE1214.out) | exact HB.out)))); have n1_ := Aside0.mk (Kd.R_lower ho1 (below_size (by repeat (first | (with_reducible first | exact HB.out | apply below_alloc | apply pw_below_drewN | apply below_drew1 | refine below_set ?_ GE1213.out | refine below_set ?_ GE1214.out) | exact HB.out)))); have n2_ := Aside0.mk (blk_below (g := gb1213) (o := .cells #[.slice A0_0 l0_0.length c0_0, .slice A0_1 l0_1.length c0_1] 26 (0, 0)) (by (with_reducible repeat (first | refine blk_drewN ?_ _ | refine blk_drew ?_ | refine blk_alloc ?_ _)); exact BK1213.out) hb); have n3_ := Aside0.mk (blk_below (g := gb1214) (o := .cells #[.slice none 0 0, .slice none 0 0] 26 (0, 0)) (by (with_reducible repeat (first | refine blk_drewN ?_ _ | refine blk_drew ?_ | refine blk_alloc ?_ _)); exact BK1214.out) hb); have n4_ := Aside0.mk (below_step (by repeat (first | (with_reducible first | exact HB.out | apply below_alloc | apply pw_below_drewN | apply below_drew1 | refine below_set ?_ GE1213.out | refine below_set ?_ GE1214.out) | exact HB.out)) hb); clear BK1213; clear BK1214; clear HB; have HO1217 := n0_; have HO1220 := n1_; have BK1213 := n2_; have BK1214 := n3_; have HB := n4_; clear n0_ n1_ n2_ n3_ n4_; (try clear hb); (try clear hb2); (try clear hk); (try clear hi); (try clear ho0); (try clear ho1)) | ((with_reducible refine gate_dst (N := 7) rfl ?_); refine box_event ?hg (N := 7) ?hd (cs := #[.slice none 0 0, .slice none 0 0]) (t := 26) ?hr ?_; (case hd => rfl); (case hg => rfl); (case hr => first | (go_simp; done) | (go_simp; rfl)); intro gb1221 hg w11 hbox hb; have n0_ := Aside0.mk (Kd.R_below (by (with_reducible repeat (first | apply Kd.R_alloc | apply Kd.R_drewN | apply Kd.R_drew)); exact HO1217.out) hb); have n1_ := Aside0.mk (Kd.R_below (by (with_reducible repeat (first | apply Kd.R_alloc | apply Kd.R_drewN | apply Kd.R_drew)); exact HO1220.out) hb); have n2_ := Aside0.mk (blk_below (g := gb1213) (o := .cells #[.slice A0_0 l0_0.length c0_0, .slice A0_1 l0_1.length c0_1] 26 (0, 0)) (by (with_reducible repeat (first | refine blk_drewN ?_ _ | refine blk_drew ?_ | refine blk_alloc ?_ _)); exact BK1213.out) hb); have n3_ := Aside0.mk (blk_below (g := gb1214) (o := .cells #[.slice none 0 0, .slice none 0 0] 26 (0, 0)) (by (with_reducible repeat (first | refine blk_drewN ?_ _ | refine blk_drew ?_ | refine blk_alloc ?_ _)); exact BK1214.out) hb); have n4_ := Aside0.mk (below_step (by repeat (first | (with_reducible first | exact HB.out | apply below_alloc | apply pw_below_drewN | apply below_drew1 | refine below_set ?_ GE1213.out | refine below_set ?_ GE1214.out) | exact HB.out)) hb); have n5_ := Aside0.mk (hbox); have n6_ := Aside0.mk ((by rw [hg]; exact (below_size (by repeat (first | (with_reducible first | exact HB.out | apply below_alloc | apply pw_below_drewN | apply below_drew1 | refine below_set ?_ GE1213.out | refine below_set ?_ GE1214.out) | exact HB.out))) : w.heap.size ≤ gb1221)); have n7_ := Aside0.mk ((by rw [hg]; exact (below_size (by repeat (first | (with_reducible first | exact HB.out | apply below_alloc | apply pw_below_drewN | apply below_drew1 | refine below_set ?_ GE1213.out | refine below_set ?_ GE1214.out) | exact HB.out))) : w.heap.size ≤ gb1221)); have n8_ := Aside0.mk ((by rw [hg]; exact Nat.ne_of_lt (blk_lt (g := gb1213) (o := .cells #[.slice A0_0 l0_0.length c0_0, .slice A0_1 l0_1.length c0_1] 26 (0, 0)) (by (with_reducible repeat (first | refine blk_drewN ?_ _ | refine blk_drew ?_ | refine blk_alloc ?_ _)); exact BK1213.out)) : gb1213 ≠ gb1221)); have n9_ := Aside0.mk ((by rw [hg]; exact Nat.ne_of_gt (blk_lt (g := gb1213) (o := .cells #[.slice A0_0 l0_0.length c0_0, .slice A0_1 l0_1.length c0_1] 26 (0, 0)) (by (with_reducible repeat (first | refine blk_drewN ?_ _ | refine blk_drew ?_ | refine blk_alloc ?_ _)); exact BK1213.out)) : gb1221 ≠ gb1213)); have n10_ := Aside0.mk ((by rw [hg]; exact Nat.ne_of_lt (blk_lt (g := gb1214) (o := .cells #[.slice none 0 0, .slice none 0 0] 26 (0, 0)) (by (with_reducible repeat (first | refine blk_drewN ?_ _ | refine blk_drew ?_ | refine blk_alloc ?_ _)); exact BK1214.out)) : gb1214 ≠ gb1221)); have n11_ := Aside0.mk ((by rw [hg]; exact Nat.ne_of_gt (blk_lt (g := gb1214) (o := .cells #[.slice none 0 0, .slice none 0 0] 26 (0, 0)) (by (with_reducible repeat (first | refine blk_drewN ?_ _ | refine blk_drew ?_ | refine blk_alloc ?_ _)); exact BK1214.out)) : gb1221 ≠ gb1214)); clear HO1217; clear HO1220; clear BK1213; clear BK1214; clear HB; have HO1217 := n0_; have HO1220 := n1_; have BK1213 := n2_; have BK1214 := n3_; have HB := n4_; have BK1221 := n5_; have GW1221 := n6_; have GE1221 := n7_; have NB1213_1221 := n8_; have NB1221_1213 := n9_; have NB1214_1221 := n10_; have NB1221_1214 := n11_; clear n0_ n1_ n2_ n3_ n4_ n5_ n6_ n7_ n8_ n9_ n10_ n11_; clear hb hbox hg; obtain ⟨Ao12, co12, eo12⟩ := Kd.R_slice HO1217.out; subst eo12; have hnb13 := NB1221_1213.out; have hnc13 := NB1213_1221.out; have hnb14 := NB1221_1214.out; have hnc14 := NB1214_1221.out; have hcz15_0 : w11.cell? ⟨gb1221, 0, none⟩ = some (.slice none 0 0) := (blk_cell BK1221.out 0).trans rfl; have hcz15_1 : w11.cell? ⟨gb1221, 1, none⟩ = some (.slice none 0 0) := (blk_cell BK1221.out 1).trans rfl; have hfz15_0 := blk_frozen BK1221.out 0; have hfz15_1 := blk_frozen BK1221.out 1; obtain ⟨Ao16, co16, eo16⟩ := Kd.R_slice HO1220.out; subst eo16))
  (try simp only [Act.put, List.setIfInBounds_toArray, List.set_cons_zero, List.set_cons_succ])
  go_cut [20] (fun v20 wc => ∃ (kq : Nat) (x20_4 : Bool), v20 = .bool x20_4 ∧ Aside0 (inner_Inner_Merged.j0 kq a1 a2 x20_4 t1215 t1218 = some (r1, r2)) ∧ Aside0 (kq ≤ k) ∧ Aside0 (Kd.R (Kd.int .i64) 2 wc w.heap.size (fun _ => True) (.slice Ao12 t1215.length co12) t1215) ∧ Aside0 (Kd.R (Kd.int .i64) 47 wc w.heap.size (fun _ => True) (.slice Ao16 t1218.length co16) t1218) ∧ Aside0 (wc.heap[gb1213]? = some (.cells #[(.slice A0_0 l0_0.length c0_0), (.slice A0_1 l0_1.length c0_1)] 26 (0, 0))) ∧ Aside0 (wc.heap[gb1214]? = some (.cells #[(.slice none 0 0), (.slice none 0 0)] 26 (0, 0))) ∧ Aside0 (wc.heap[gb1221]? = some (.cells #[(.slice Ao12 t1215.length co12), (.slice Ao16 t1218.length co16)] 26 (0, 0))) ∧ Aside0 (Below w.heap.size w wc))
  case first =>
    have H := HC5.out
    clear HC5
    replace H := Option.bind_eq_some_iff.mp H
    obtain ⟨t1222, A170, H⟩ := H
    replace H : (if t1222 = true then ((inner_Inner_in.f l0_0 l0_1 (wrap64 (a1 + 1))).bind fun t1223 => (inner_Inner_Merged.j0 k a1 a2 (!t1223) t1215 t1218)) else (inner_Inner_Merged.j0 k a1 a2 true t1215 t1218)) = some (r1, r2) := H
    have A17 := Aside0.mk A170
    clear A170
    by_cases c18 : t1222 = true
    · subst c18
      have H1 : ((inner_Inner_in.f l0_0 l0_1 (wrap64 (a1 + 1))).bind fun t1223 => (inner_Inner_Merged.j0 k a1 a2 (!t1223) t1215 t1218)) = some (r1, r2) := by rw [if_pos rfl] at H; exact H
      clear H
      have H := H1
      clear H1
      replace H := Option.bind_eq_some_iff.mp H
      obtain ⟨t1223, A190, H⟩ := H
      replace H : (inner_Inner_Merged.j0 k a1 a2 (!t1223) t1215 t1218) = some (r1, r2) := H
      have A19 := Aside0.mk A190
      clear A190
      have H' := Aside0.mk H
      clear H
      have hnb20 := NB1213_1214.out
      have hnc20 := NB1214_1213.out
      have hnb21 := NB1213_1221.out
      have hnc21 := NB1221_1213.out
      have hcz22_0 : w11.cell? ⟨gb1213, 0, none⟩ = some (.slice A0_0 l0_0.length c0_0) := (blk_cell BK1213.out 0).trans rfl
      have hcz22_1 : w11.cell? ⟨gb1213, 1, none⟩ = some (.slice A0_1 l0_1.length c0_1) := (blk_cell BK1213.out 1).trans rfl
      have hfz22_0 := blk_frozen BK1213.out 0
      have hfz22_1 := blk_frozen BK1213.out 1
      go_wp2_with (first | ((with_reducible refine gate_callee (f := 101) rfl ?_); refine goesL_ (some 12) rfl rfl Try.func101 (by kernel_rfl) rfl #[.agg #[.slice A0_0 l0_0.length c0_0, .slice A0_1 l0_1.length c0_1], .int .i64 a1] rfl (by (try simp only [List.map_toArray, List.map_cons, List.map_nil]); first | done | rfl | (simp only [List.length_drop, List.length_take]; rfl)) ?_; (with_reducible refine (inner_Inner_in.calls _ _ l0_0 _ _ l0_1 a1 true _ ?side1 ?side2 ?side3 ?side4 A17.out).mono ?_); (case side1 => exact Kd.C_below HR0_0.out (by repeat (first | (with_reducible first | exact HB.out | apply below_alloc | apply pw_below_drewN | apply below_drew1 | refine below_set ?_ GE1213.out | refine below_set ?_ GE1214.out | refine below_set ?_ GE1221.out) | exact HB.out))); (case side2 => exact HC0_0.out); (case side3 => exact Kd.C_below HR0_1.out (by repeat (first | (with_reducible first | exact HB.out | apply below_alloc | apply pw_below_drewN | apply below_drew1 | refine below_set ?_ GE1213.out | refine below_set ?_ GE1214.out | refine below_set ?_ GE1221.out) | exact HB.out))); (case side4 => exact HC0_1.out); rintro e w23 ⟨rfl, hb⟩; refine ⟨_, rfl, ?_⟩; have n0_ := Aside0.mk (Kd.R_below (by (with_reducible repeat (first | apply Kd.R_alloc | apply Kd.R_drewN | apply Kd.R_drew)); exact (Kd.R_mono (Kd.R_far (p := ⟨gb1221, 1, none⟩) (Kd.R_far (p := ⟨gb1221, 0, none⟩) (Kd.R_types HO1217.out BK1221.out (by decide)) (fun _ hk => hk.2) (.slice Ao12 t1215.length co12)) (fun _ hk => hk.2) (.slice Ao16 t1218.length co16)) (fun _ h_ => h_.1))) hb); have n1_ := Aside0.mk (Kd.R_below (by (with_reducible repeat (first | apply Kd.R_alloc | apply Kd.R_drewN | apply Kd.R_drew)); exact (Kd.R_mono (Kd.R_far (p := ⟨gb1221, 1, none⟩) (Kd.R_far (p := ⟨gb1221, 0, none⟩) (Kd.R_types HO1220.out BK1221.out (by decide)) (fun _ hk => hk.2) (.slice Ao12 t1215.length co12)) (fun _ hk => hk.2) (.slice Ao16 t1218.length co16)) (fun _ h_ => h_.1))) hb); have n2_ := Aside0.mk (blk_below (g := gb1213) (o := .cells #[.slice A0_0 l0_0.length c0_0, .slice A0_1 l0_1.length c0_1] 26 (0, 0)) (by (with_reducible repeat (first | refine blk_drewN ?_ _ | refine blk_drew ?_ | refine blk_alloc ?_ _)); refine blk_far ?_ NB1213_1221.out _; (with_reducible repeat (first | refine blk_drewN ?_ _ | refine blk_drew ?_ | refine blk_alloc ?_ _)); refine blk_far ?_ NB1213_1221.out _; (with_reducible repeat (first | refine blk_drewN ?_ _ | refine blk_drew ?_ | refine blk_alloc ?_ _)); exact BK1213.out) hb); have n3_ := Aside0.mk (blk_below (g := gb1214) (o := .cells #[.slice none 0 0, .slice none 0 0] 26 (0, 0)) (by (with_reducible repeat (first | refine blk_drewN ?_ _ | refine blk_drew ?_ | refine blk_alloc ?_ _)); refine blk_far ?_ NB1214_1221.out _; (with_reducible repeat (first | refine blk_drewN ?_ _ | refine blk_drew ?_ | refine blk_alloc ?_ _)); refine blk_far ?_ NB1214_1221.out _; (with_reducible repeat (first | refine blk_drewN ?_ _ | refine blk_drew ?_ | refine blk_alloc ?_ _)); exact BK1214.out) hb); have n4_ := Aside0.mk (blk_below (g := gb1221) (o := .cells #[.slice Ao12 t1215.length co12, .slice Ao16 t1218.length co16] 26 (0, 0)) (by (with_reducible repeat (first | refine blk_drewN ?_ _ | refine blk_drew ?_ | refine blk_alloc ?_ _)); refine blk_put (cs := #[.slice Ao12 t1215.length co12, .slice none 0 0]) ?_ 1 _ rfl; (with_reducible repeat (first | refine blk_drewN ?_ _ | refine blk_drew ?_ | refine blk_alloc ?_ _)); refine blk_put (cs := #[.slice none 0 0, .slice none 0 0]) ?_ 0 _ rfl; (with_reducible repeat (first | refine blk_drewN ?_ _ | refine blk_drew ?_ | refine blk_alloc ?_ _)); exact BK1221.out) hb); have n5_ := Aside0.mk (below_step (by repeat (first | (with_reducible first | exact HB.out | apply below_alloc | apply pw_below_drewN | apply below_drew1 | refine below_set ?_ GE1213.out | refine below_set ?_ GE1214.out | refine below_set ?_ GE1221.out) | exact HB.out)) hb); clear HO1217; clear HO1220; clear BK1213; clear BK1214; clear BK1221; clear HB; have HO1217 := n0_; have HO1220 := n1_; have BK1213 := n2_; have BK1214 := n3_; have BK1221 := n4_; have HB := n5_; clear n0_ n1_ n2_ n3_ n4_ n5_; (try clear hb); (try clear hb2); (try clear hk); (try clear hi); have hcz24_0 : w23.cell? ⟨gb1213, 0, none⟩ = some (.slice A0_0 l0_0.length c0_0) := (blk_cell BK1213.out 0).trans rfl; have hcz24_1 : w23.cell? ⟨gb1213, 1, none⟩ = some (.slice A0_1 l0_1.length c0_1) := (blk_cell BK1213.out 1).trans rfl; have hfz24_0 := blk_frozen BK1213.out 0; have hfz24_1 := blk_frozen BK1213.out 1) | (go_at_call 101; (with_reducible refine (inner_Inner_in.calls _ _ l0_0 _ _ l0_1 (wrap64 (a1 + 1)) t1223 _ ?side1 ?side2 ?side3 ?side4 A19.out).mono ?_); (case side1 => repeat (first | exact (Kd.C_below HR0_0.out HB.out) | (with_reducible refine Kd.C_alloc ?_ _) | (with_reducible refine Kd.C_drewN ?_ _) | (with_reducible refine Kd.C_drew ?_))); (case side2 => exact HC0_0.out); (case side3 => repeat (first | exact (Kd.C_below HR0_1.out HB.out) | (with_reducible refine Kd.C_alloc ?_ _) | (with_reducible refine Kd.C_drewN ?_ _) | (with_reducible refine Kd.C_drew ?_))); (case side4 => exact HC0_1.out); rintro e w25 ⟨rfl, hb⟩; have n0_ := Aside0.mk (Kd.R_below (by (with_reducible repeat (first | apply Kd.R_alloc | apply Kd.R_drewN | apply Kd.R_drew)); exact HO1217.out) hb); have n1_ := Aside0.mk (Kd.R_below (by (with_reducible repeat (first | apply Kd.R_alloc | apply Kd.R_drewN | apply Kd.R_drew)); exact HO1220.out) hb); have n2_ := Aside0.mk (blk_below (g := gb1213) (o := .cells #[.slice A0_0 l0_0.length c0_0, .slice A0_1 l0_1.length c0_1] 26 (0, 0)) (by (with_reducible repeat (first | refine blk_drewN ?_ _ | refine blk_drew ?_ | refine blk_alloc ?_ _)); exact BK1213.out) hb); have n3_ := Aside0.mk (blk_below (g := gb1214) (o := .cells #[.slice none 0 0, .slice none 0 0] 26 (0, 0)) (by (with_reducible repeat (first | refine blk_drewN ?_ _ | refine blk_drew ?_ | refine blk_alloc ?_ _)); exact BK1214.out) hb); have n4_ := Aside0.mk (blk_below (g := gb1221) (o := .cells #[.slice Ao12 t1215.length co12, .slice Ao16 t1218.length co16] 26 (0, 0)) (by (with_reducible repeat (first | refine blk_drewN ?_ _ | refine blk_drew ?_ | refine blk_alloc ?_ _)); exact BK1221.out) hb); have n5_ := Aside0.mk (below_step (by repeat (first | (with_reducible first | exact HB.out | apply below_alloc | apply pw_below_drewN | apply below_drew1 | refine below_set ?_ GE1213.out | refine below_set ?_ GE1214.out | refine below_set ?_ GE1221.out) | exact HB.out)) hb); clear HO1217; clear HO1220; clear BK1213; clear BK1214; clear BK1221; clear HB; have HO1217 := n0_; have HO1220 := n1_; have BK1213 := n2_; have BK1214 := n3_; have BK1221 := n4_; have HB := n5_; clear n0_ n1_ n2_ n3_ n4_ n5_; (try clear hb); (try clear hb2); (try clear hk); (try clear hi)))
      go_meet
      case rel => exact ⟨_, (!t1223), (by first | rfl | (simp; done) | (simp [*]; done)), H', ⟨by first | omega | exact Nat.le_refl _⟩, ⟨by (with_reducible repeat (first | apply Kd.R_alloc | apply Kd.R_drewN | apply Kd.R_drew)); exact HO1217.out⟩, ⟨by (with_reducible repeat (first | apply Kd.R_alloc | apply Kd.R_drewN | apply Kd.R_drew)); exact HO1220.out⟩, ⟨by (with_reducible repeat (first | refine blk_drewN ?_ _ | refine blk_drew ?_ | refine blk_alloc ?_ _)); exact BK1213.out⟩, ⟨by (with_reducible repeat (first | refine blk_drewN ?_ _ | refine blk_drew ?_ | refine blk_alloc ?_ _)); exact BK1214.out⟩, ⟨by (with_reducible repeat (first | refine blk_drewN ?_ _ | refine blk_drew ?_ | refine blk_alloc ?_ _)); exact BK1221.out⟩, ⟨by repeat (first | (with_reducible first | exact HB.out | apply below_alloc | apply pw_below_drewN | apply below_drew1 | refine below_set ?_ GE1213.out | refine below_set ?_ GE1214.out | refine below_set ?_ GE1221.out) | exact HB.out)⟩⟩
    · replace c18 := Bool.eq_false_iff.mpr c18
      subst c18
      have H1 : (inner_Inner_Merged.j0 k a1 a2 true t1215 t1218) = some (r1, r2) := by rw [if_neg (show ¬ (false = true) by decide)] at H; exact H
      clear H
      have H := H1
      clear H1
      have H' := Aside0.mk H
      clear H
      have hnb26 := NB1213_1214.out
      have hnc26 := NB1214_1213.out
      have hnb27 := NB1213_1221.out
      have hnc27 := NB1221_1213.out
      have hcz28_0 : w11.cell? ⟨gb1213, 0, none⟩ = some (.slice A0_0 l0_0.length c0_0) := (blk_cell BK1213.out 0).trans rfl
      have hcz28_1 : w11.cell? ⟨gb1213, 1, none⟩ = some (.slice A0_1 l0_1.length c0_1) := (blk_cell BK1213.out 1).trans rfl
      have hfz28_0 := blk_frozen BK1213.out 0
      have hfz28_1 := blk_frozen BK1213.out 1
      go_wp2_with (first | ((with_reducible refine gate_callee (f := 101) rfl ?_); refine goesL_ (some 12) rfl rfl Try.func101 (by kernel_rfl) rfl #[.agg #[.slice A0_0 l0_0.length c0_0, .slice A0_1 l0_1.length c0_1], .int .i64 a1] rfl (by (try simp only [List.map_toArray, List.map_cons, List.map_nil]); first | done | rfl | (simp only [List.length_drop, List.length_take]; rfl)) ?_; (with_reducible refine (inner_Inner_in.calls _ _ l0_0 _ _ l0_1 a1 false _ ?side1 ?side2 ?side3 ?side4 A17.out).mono ?_); (case side1 => exact Kd.C_below HR0_0.out (by repeat (first | (with_reducible first | exact HB.out | apply below_alloc | apply pw_below_drewN | apply below_drew1 | refine below_set ?_ GE1213.out | refine below_set ?_ GE1214.out | refine below_set ?_ GE1221.out) | exact HB.out))); (case side2 => exact HC0_0.out); (case side3 => exact Kd.C_below HR0_1.out (by repeat (first | (with_reducible first | exact HB.out | apply below_alloc | apply pw_below_drewN | apply below_drew1 | refine below_set ?_ GE1213.out | refine below_set ?_ GE1214.out | refine below_set ?_ GE1221.out) | exact HB.out))); (case side4 => exact HC0_1.out); rintro e w29 ⟨rfl, hb⟩; refine ⟨_, rfl, ?_⟩; have n0_ := Aside0.mk (Kd.R_below (by (with_reducible repeat (first | apply Kd.R_alloc | apply Kd.R_drewN | apply Kd.R_drew)); exact (Kd.R_mono (Kd.R_far (p := ⟨gb1221, 1, none⟩) (Kd.R_far (p := ⟨gb1221, 0, none⟩) (Kd.R_types HO1217.out BK1221.out (by decide)) (fun _ hk => hk.2) (.slice Ao12 t1215.length co12)) (fun _ hk => hk.2) (.slice Ao16 t1218.length co16)) (fun _ h_ => h_.1))) hb); have n1_ := Aside0.mk (Kd.R_below (by (with_reducible repeat (first | apply Kd.R_alloc | apply Kd.R_drewN | apply Kd.R_drew)); exact (Kd.R_mono (Kd.R_far (p := ⟨gb1221, 1, none⟩) (Kd.R_far (p := ⟨gb1221, 0, none⟩) (Kd.R_types HO1220.out BK1221.out (by decide)) (fun _ hk => hk.2) (.slice Ao12 t1215.length co12)) (fun _ hk => hk.2) (.slice Ao16 t1218.length co16)) (fun _ h_ => h_.1))) hb); have n2_ := Aside0.mk (blk_below (g := gb1213) (o := .cells #[.slice A0_0 l0_0.length c0_0, .slice A0_1 l0_1.length c0_1] 26 (0, 0)) (by (with_reducible repeat (first | refine blk_drewN ?_ _ | refine blk_drew ?_ | refine blk_alloc ?_ _)); refine blk_far ?_ NB1213_1221.out _; (with_reducible repeat (first | refine blk_drewN ?_ _ | refine blk_drew ?_ | refine blk_alloc ?_ _)); refine blk_far ?_ NB1213_1221.out _; (with_reducible repeat (first | refine blk_drewN ?_ _ | refine blk_drew ?_ | refine blk_alloc ?_ _)); exact BK1213.out) hb); have n3_ := Aside0.mk (blk_below (g := gb1214) (o := .cells #[.slice none 0 0, .slice none 0 0] 26 (0, 0)) (by (with_reducible repeat (first | refine blk_drewN ?_ _ | refine blk_drew ?_ | refine blk_alloc ?_ _)); refine blk_far ?_ NB1214_1221.out _; (with_reducible repeat (first | refine blk_drewN ?_ _ | refine blk_drew ?_ | refine blk_alloc ?_ _)); refine blk_far ?_ NB1214_1221.out _; (with_reducible repeat (first | refine blk_drewN ?_ _ | refine blk_drew ?_ | refine blk_alloc ?_ _)); exact BK1214.out) hb); have n4_ := Aside0.mk (blk_below (g := gb1221) (o := .cells #[.slice Ao12 t1215.length co12, .slice Ao16 t1218.length co16] 26 (0, 0)) (by (with_reducible repeat (first | refine blk_drewN ?_ _ | refine blk_drew ?_ | refine blk_alloc ?_ _)); refine blk_put (cs := #[.slice Ao12 t1215.length co12, .slice none 0 0]) ?_ 1 _ rfl; (with_reducible repeat (first | refine blk_drewN ?_ _ | refine blk_drew ?_ | refine blk_alloc ?_ _)); refine blk_put (cs := #[.slice none 0 0, .slice none 0 0]) ?_ 0 _ rfl; (with_reducible repeat (first | refine blk_drewN ?_ _ | refine blk_drew ?_ | refine blk_alloc ?_ _)); exact BK1221.out) hb); have n5_ := Aside0.mk (below_step (by repeat (first | (with_reducible first | exact HB.out | apply below_alloc | apply pw_below_drewN | apply below_drew1 | refine below_set ?_ GE1213.out | refine below_set ?_ GE1214.out | refine below_set ?_ GE1221.out) | exact HB.out)) hb); clear HO1217; clear HO1220; clear BK1213; clear BK1214; clear BK1221; clear HB; have HO1217 := n0_; have HO1220 := n1_; have BK1213 := n2_; have BK1214 := n3_; have BK1221 := n4_; have HB := n5_; clear n0_ n1_ n2_ n3_ n4_ n5_; (try clear hb); (try clear hb2); (try clear hk); (try clear hi)))
      go_meet
      case rel => exact ⟨_, (true), (by first | rfl | (simp; done) | (simp [*]; done)), H', ⟨by first | omega | exact Nat.le_refl _⟩, ⟨by (with_reducible repeat (first | apply Kd.R_alloc | apply Kd.R_drewN | apply Kd.R_drew)); exact HO1217.out⟩, ⟨by (with_reducible repeat (first | apply Kd.R_alloc | apply Kd.R_drewN | apply Kd.R_drew)); exact HO1220.out⟩, ⟨by (with_reducible repeat (first | refine blk_drewN ?_ _ | refine blk_drew ?_ | refine blk_alloc ?_ _)); exact BK1213.out⟩, ⟨by (with_reducible repeat (first | refine blk_drewN ?_ _ | refine blk_drew ?_ | refine blk_alloc ?_ _)); exact BK1214.out⟩, ⟨by (with_reducible repeat (first | refine blk_drewN ?_ _ | refine blk_drew ?_ | refine blk_alloc ?_ _)); exact BK1221.out⟩, ⟨by repeat (first | (with_reducible first | exact HB.out | apply below_alloc | apply pw_below_drewN | apply below_drew1 | refine below_set ?_ GE1213.out | refine below_set ?_ GE1214.out | refine below_set ?_ GE1221.out) | exact HB.out)⟩⟩
  case rest =>
    clear HC5
    try clear c1
    try clear c2
    try clear p2
    try clear p6
    try clear c8
    try clear c10
    try clear c13
    try clear c14
    try clear c18
    try clear c20
    try clear c21
    try clear c26
    try clear c27
    try clear hcz15_0
    try clear hcz15_1
    try clear hcz22_0
    try clear hcz22_1
    try clear hcz24_0
    try clear hcz24_1
    try clear hcz28_0
    try clear hcz28_1
    try clear hcz9_0
    try clear hcz9_1
    try clear hfz15_0
    try clear hfz15_1
    try clear hfz22_0
    try clear hfz22_1
    try clear hfz24_0
    try clear hfz24_1
    try clear hfz28_0
    try clear hfz28_1
    try clear hfz9_0
    try clear hfz9_1
    obtain ⟨kq, x20_4, rfl, HA, HJ4, HO_1222000, HO_1222001, BK1213, BK1214, BK1221, HB⟩ := hcut
    cases kq with
    | zero => exact absurd HA.out (by simp [inner_Inner_Merged.j0])
    | succ kj4 =>
      have H := HA.out
      clear HA
      simp only [inner_Inner_Merged.j0] at H
      by_cases c30 : x20_4 = true
      · subst c30
        have H1 : (some (t1215, t1218)) = some (r1, r2) := by rw [if_pos rfl] at H; exact H
        clear H
        have H := H1
        clear H1
        simp only [Option.some.injEq, Prod.mk.injEq] at H
        obtain ⟨rfl, rfl⟩ := H
        have hnb31 := NB1221_1213.out
        have hnc31 := NB1213_1221.out
        have hnb32 := NB1221_1214.out
        have hnc32 := NB1214_1221.out
        have hcz33_0 : wc.cell? ⟨gb1221, 0, none⟩ = some (.slice Ao12 t1215.length co12) := (blk_cell BK1221.out 0).trans rfl
        have hcz33_1 : wc.cell? ⟨gb1221, 1, none⟩ = some (.slice Ao16 t1218.length co16) := (blk_cell BK1221.out 1).trans rfl
        have hfz33_0 := blk_frozen BK1221.out 0
        have hfz33_1 := blk_frozen BK1221.out 1
        have hnb34 := NB1214_1213.out
        have hnc34 := NB1213_1214.out
        have hcz35_0 : wc.cell? ⟨gb1214, 0, none⟩ = some (.slice none 0 0) := (blk_cell BK1214.out 0).trans rfl
        have hcz35_1 : wc.cell? ⟨gb1214, 1, none⟩ = some (.slice none 0 0) := (blk_cell BK1214.out 1).trans rfl
        have hfz35_0 := blk_frozen BK1214.out 0
        have hfz35_1 := blk_frozen BK1214.out 1
        go_wp2
        refine bodyPost_ret (results_cell_row rfl _ _ gb1214 26 #[.slice Ao12 t1215.length co12, .slice Ao16 t1218.length co16] (0, 0) _ rfl (by (with_reducible repeat (first | refine blk_drewN ?_ _ | refine blk_drew ?_ | refine blk_alloc ?_ _)); refine blk_put (cs := #[.slice Ao12 t1215.length co12, .slice none 0 0]) ?_ 1 _ rfl; (with_reducible repeat (first | refine blk_drewN ?_ _ | refine blk_drew ?_ | refine blk_alloc ?_ _)); refine blk_put (cs := #[.slice none 0 0, .slice none 0 0]) ?_ 0 _ rfl; (with_reducible repeat (first | refine blk_drewN ?_ _ | refine blk_drew ?_ | refine blk_alloc ?_ _)); exact BK1214.out) Try.underlying26 rfl (by kernel_rfl)) rfl ?_
        exact ⟨_, _, by first | rfl | (simp [errW_none, errW_some] <;> rfl) | (simp [*, errW_none, errW_some] <;> rfl), by (with_reducible repeat (first | apply Kd.R_alloc | apply Kd.R_drewN | apply Kd.R_drew)); exact Kd.R_mono (Kd.R_far (p := ⟨gb1214, 1, none⟩) (Kd.R_far (p := ⟨gb1214, 0, none⟩) (Kd.R_types HO_1222000.out BK1214.out (by decide)) (fun _ hk => hk.2) (.slice Ao12 t1215.length co12)) (fun _ hk => hk.2) (.slice Ao16 t1218.length co16)) (fun _ hk => trivial), by (with_reducible repeat (first | apply Kd.R_alloc | apply Kd.R_drewN | apply Kd.R_drew)); exact Kd.R_mono (Kd.R_far (p := ⟨gb1214, 1, none⟩) (Kd.R_far (p := ⟨gb1214, 0, none⟩) (Kd.R_types HO_1222001.out BK1214.out (by decide)) (fun _ hk => hk.2) (.slice Ao12 t1215.length co12)) (fun _ hk => hk.2) (.slice Ao16 t1218.length co16)) (fun _ hk => trivial), by repeat (first | (with_reducible first | exact HB.out | apply below_alloc | apply pw_below_drewN | apply below_drew1 | refine below_set ?_ GE1213.out | refine below_set ?_ GE1214.out | refine below_set ?_ GE1221.out) | exact HB.out)⟩
      · replace c30 := Bool.eq_false_iff.mpr c30
        subst c30
        have H1 : ((ref_Ref_113.f t1218 a1 (wrap64 (a1 + 2)) (([a2] : List Int))).bind fun t1227 => ((slices_Delete_int64_int64.f t1215 a1 (wrap64 (a1 + 1))).bind fun t1230 => (some (t1230, t1227)))) = some (r1, r2) := by rw [if_neg (show ¬ (false = true) by decide)] at H; exact H
        clear H
        have H := H1
        clear H1
        obtain ⟨y1224, hy1224⟩ : ∃ y_ : List Int, y_ = (([a2] : List Int)) := ⟨_, rfl⟩
        replace H : ((ref_Ref_113.f t1218 a1 (wrap64 (a1 + 2)) y1224).bind fun t1227 => ((slices_Delete_int64_int64.f t1215 a1 (wrap64 (a1 + 1))).bind fun t1230 => (some (t1230, t1227)))) = some (r1, r2) := by first | (rw [hy1224]; with_reducible exact H) | (have H2_ := (Option.bind_some _ _).symm.trans H; rw [hy1224]; with_reducible exact H2_) | (have H2_ := (Option.bind_some _ _).symm.trans H; with_reducible exact H2_) | with_reducible exact H | (rw [hy1224]; exact H) | exact H
        have Ny1224 := Aside0.mk hy1224
        clear hy1224
        replace H := Option.bind_eq_some_iff.mp H
        obtain ⟨t1227, A360, H⟩ := H
        replace H : ((slices_Delete_int64_int64.f t1215 a1 (wrap64 (a1 + 1))).bind fun t1230 => (some (t1230, t1227))) = some (r1, r2) := H
        have A36 := Aside0.mk A360
        clear A360
        replace H := Option.bind_eq_some_iff.mp H
        obtain ⟨t1230, A370, H⟩ := H
        replace H : (some (t1230, t1227)) = some (r1, r2) := H
        have A37 := Aside0.mk A370
        clear A370
        simp only [Option.some.injEq, Prod.mk.injEq] at H
        obtain ⟨rfl, rfl⟩ := H
        have hnb38 := NB1221_1213.out
        have hnc38 := NB1213_1221.out
        have hnb39 := NB1221_1214.out
        have hnc39 := NB1214_1221.out
        have hcz40_0 : wc.cell? ⟨gb1221, 0, none⟩ = some (.slice Ao12 t1215.length co12) := (blk_cell BK1221.out 0).trans rfl
        have hcz40_1 : wc.cell? ⟨gb1221, 1, none⟩ = some (.slice Ao16 t1218.length co16) := (blk_cell BK1221.out 1).trans rfl
        have hfz40_0 := blk_frozen BK1221.out 0
        have hfz40_1 := blk_frozen BK1221.out 1
        go_wp2_with (first | ((with_reducible refine gate_dst (N := 28) rfl ?_); refine Kd.R_lit (Kd.int .i64) _ 47 ?hg (N := 28) ?hd (xs := ([a2] : List Int)) (inner := [.int .i64 a2]) (ok := fun _ => True) (okp := fun _ => True) ?hr ?hp (fun _ hk => hk) trivial (Below.refl _ _) (Nat.le_refl _) (by simp) ?_; (case hd => rfl); (case hg => rfl); (case hr => first | (go_simp; done) | (go_simp; rfl)); (case hp => exact (Reps.one (show Kd.M (Kd.int .i64) _ _ _ a2 [.int .i64 a2] from rfl) (Reps.none _ _))); intro v1225 w41 ho42 hb hg_ hnew_; clear hg_ hnew_; (first | rw [← Ny1224.out] at ho42 | (simp only [Int.reduceToNat] at ho42; rw [← Ny1224.out] at ho42)); have n0_ := Aside0.mk (Kd.R_below (by (with_reducible repeat (first | apply Kd.R_alloc | apply Kd.R_drewN | apply Kd.R_drew)); exact HO_1222000.out) hb); have n1_ := Aside0.mk (Kd.R_elder' (by (with_reducible repeat (first | apply Kd.R_alloc | apply Kd.R_drewN | apply Kd.R_drew)); exact HO_1222001.out) (Kd.R_base ho42) hb); have n2_ := Aside0.mk (Kd.R_lower (Kd.R_new' ho42 (Kd.R_lt (by (with_reducible repeat (first | apply Kd.R_alloc | apply Kd.R_drewN | apply Kd.R_drew)); exact HO_1222001.out))) (below_size (by repeat (first | (with_reducible first | exact HB.out | apply below_alloc | apply pw_below_drewN | apply below_drew1 | refine below_set ?_ GE1213.out | refine below_set ?_ GE1214.out | refine below_set ?_ GE1221.out) | exact HB.out)))); have n3_ := Aside0.mk (blk_below (g := gb1213) (o := .cells #[.slice A0_0 l0_0.length c0_0, .slice A0_1 l0_1.length c0_1] 26 (0, 0)) (by (with_reducible repeat (first | refine blk_drewN ?_ _ | refine blk_drew ?_ | refine blk_alloc ?_ _)); exact BK1213.out) hb); have n4_ := Aside0.mk (blk_below (g := gb1214) (o := .cells #[.slice none 0 0, .slice none 0 0] 26 (0, 0)) (by (with_reducible repeat (first | refine blk_drewN ?_ _ | refine blk_drew ?_ | refine blk_alloc ?_ _)); exact BK1214.out) hb); have n5_ := Aside0.mk (blk_below (g := gb1221) (o := .cells #[.slice Ao12 t1215.length co12, .slice Ao16 t1218.length co16] 26 (0, 0)) (by (with_reducible repeat (first | refine blk_drewN ?_ _ | refine blk_drew ?_ | refine blk_alloc ?_ _)); exact BK1221.out) hb); have n6_ := Aside0.mk (below_step (by repeat (first | (with_reducible first | exact HB.out | apply below_alloc | apply pw_below_drewN | apply below_drew1 | refine below_set ?_ GE1213.out | refine below_set ?_ GE1214.out | refine below_set ?_ GE1221.out) | exact HB.out)) hb); clear HO_1222000; clear HO_1222001; clear BK1213; clear BK1214; clear BK1221; clear HB; have HO_1222000 := n0_; have HO_1222001 := n1_; have HO1226 := n2_; have BK1213 := n3_; have BK1214 := n4_; have BK1221 := n5_; have HB := n6_; clear n0_ n1_ n2_ n3_ n4_ n5_ n6_; clear hb ho42; obtain ⟨Ao43, co43, eo43⟩ := Kd.R_slice HO1226.out; subst eo43) | ((with_reducible refine gate_callee (f := 113) rfl ?_); refine goesL_ (some 29) rfl rfl Try.func113 (by kernel_rfl) rfl #[.slice Ao16 t1218.length co16, .int .i64 a1, .int .i64 (wrap64 (a1 + 2)), .slice Ao43 y1224.length co43] rfl (by (try simp only [List.map_toArray, List.map_cons, List.map_nil]); first | done | rfl | (simp only [List.length_drop, List.length_take]; rfl)) ?_; (with_reducible refine (ref_Ref_113.calls (fun k_ => some k_ = (.slice Ao16 t1218.length co16 : Value).ownBlock) (.slice Ao16 t1218.length co16) t1218 a1 (wrap64 (a1 + 2)) _ _ y1224 t1227 w _ ?side1 ?side2 ?side3 ?side4 A36.out).mono ?_); (case side1 => repeat (first | (with_reducible first | exact HB.out | apply below_alloc | apply pw_below_drewN | apply below_drew1 | refine below_set ?_ GE1213.out | refine below_set ?_ GE1214.out | refine below_set ?_ GE1221.out) | exact HB.out)); (case side2 => exact Kd.R_tight rfl HO_1222001.out); (case side3 => exact Kd.C_kept_own (HO1226.out) (fun k_ hk_ hs_ => (hk_.2) hs_)); (case side4 => exact (Kd.R_reads' HO1226.out).2.1); rintro e w44 ⟨v1228, rfl, ho0, hb, hkp⟩; refine ⟨_, rfl, ?_⟩; have n0_ := Aside0.mk (Kd.R_mono (ok' := fun k_ => True) (Kd.R_keptB ((Kd.R_apart' HO_1222000.out (Kd.R_typed HO_1222001.out) (by decide))) hkp (fun k_ hk_ hs_ => (hk_.2) hs_)) (fun k_ hk_ => trivial)); have n1_ := Aside0.mk (blk_kept (by (with_reducible repeat (first | refine blk_drewN ?_ _ | refine blk_drew ?_ | refine blk_alloc ?_ _)); exact BK1213.out) hkp (fun hs_ => (fun e_ => (Kd.R_ne HO_1222001.out BK1213.out (by decide)) e_) hs_)); have n2_ := Aside0.mk (blk_kept (by (with_reducible repeat (first | refine blk_drewN ?_ _ | refine blk_drew ?_ | refine blk_alloc ?_ _)); exact BK1214.out) hkp (fun hs_ => (fun e_ => (Kd.R_ne HO_1222001.out BK1214.out (by decide)) e_) hs_)); have n3_ := Aside0.mk (blk_kept (by (with_reducible repeat (first | refine blk_drewN ?_ _ | refine blk_drew ?_ | refine blk_alloc ?_ _)); exact BK1221.out) hkp (fun hs_ => (fun e_ => (Kd.R_ne HO_1222001.out BK1221.out (by decide)) e_) hs_)); have n4_ := Aside0.mk (Kd.R_mono (ok' := fun k_ => some k_ ≠ (v1228 : Value).ownBlock) (Kd.R_keptB (HO1226.out) hkp (fun k_ hk_ hs_ => (hk_.2) hs_)) (fun k_ hk_ => fun e_ => Or.elim (ho0.1 k_ e_.symm) (fun hs_ => hk_.2.1 hs_) (fun hn_ => Nat.not_le.2 hk_.2.2 hn_))); have n5_ := Aside0.mk (Kd.R_mono (ok' := fun k_ => some k_ ≠ (.slice Ao43 y1224.length co43 : Value).ownBlock) ho0 (fun k_ hk_ => Or.elim hk_ (fun hs_ => fun e_ => (((HO1226.out).1 k_ e_.symm).2) hs_) (fun hn_ => (Kd.fresh' (Kd.R_lt (by (with_reducible repeat (first | apply Kd.R_alloc | apply Kd.R_drewN | apply Kd.R_drew)); exact HO1226.out)) k_ hn_)))); have n6_ := Aside0.mk (hb); clear HO_1222000; clear BK1213; clear BK1214; clear BK1221; clear HO1226; clear HB; clear HO_1222001; have HO_1222000 := n0_; have BK1213 := n1_; have BK1214 := n2_; have BK1221 := n3_; have HO1226 := n4_; have HO1229 := n5_; have HB := n6_; clear n0_ n1_ n2_ n3_ n4_ n5_ n6_; (try clear hb); (try clear hkp); (try clear ho0); obtain ⟨Ao45, co45, eo45⟩ := Kd.R_slice HO1229.out; subst eo45; have hcz46_0 : w44.cell? ⟨gb1221, 0, none⟩ = some (.slice Ao12 t1215.length co12) := (blk_cell BK1221.out 0).trans rfl; have hcz46_1 : w44.cell? ⟨gb1221, 1, none⟩ = some (.slice Ao16 t1218.length co16) := (blk_cell BK1221.out 1).trans rfl; have hfz46_0 := blk_frozen BK1221.out 0; have hfz46_1 := blk_frozen BK1221.out 1) | ((with_reducible refine gate_store (t := 24) (p := 30) rfl ?_); refine store_event (t := 24) (p := 30) (v := ?vo_w47) (w1 := (w44.setCell ⟨gb1221, 1, none⟩ (.slice Ao45 t1227.length co45))) ?hg ?ho ?hn ?hr ?_; (case ho => rfl); (case hg => rfl); (case hn => rfl); (case hr => first | (go_simp; done) | (go_simp; rfl)); intro w47 hw; have n0_ : Aside0 (Kd.R (Kd.int .i64) 2 w47 w.heap.size (fun _ => True) (.slice Ao12 t1215.length co12) t1215) := ⟨(by rw [hw]; exact (by (with_reducible repeat (first | apply Kd.R_alloc | apply Kd.R_drewN | apply Kd.R_drew)); exact Kd.R_mono (Kd.R_far (p := ⟨gb1221, 1, none⟩) (Kd.R_types HO_1222000.out BK1221.out (by decide)) (fun _ hk => hk.2) (.slice Ao45 t1227.length co45)) (fun _ hk => trivial)))⟩; have n1_ : Aside0 (Kd.R (Kd.int .i64) 47 w47 w.heap.size (fun k_ => some k_ ≠ (.slice Ao45 t1227.length co45 : Value).ownBlock) (.slice Ao43 y1224.length co43) y1224) := ⟨(by rw [hw]; exact (by (with_reducible repeat (first | apply Kd.R_alloc | apply Kd.R_drewN | apply Kd.R_drew)); exact Kd.R_mono (Kd.R_far (p := ⟨gb1221, 1, none⟩) (Kd.R_types HO1226.out BK1221.out (by decide)) (fun _ hk => hk.2) (.slice Ao45 t1227.length co45)) (fun _ hk => hk.1)))⟩; have n2_ : Aside0 (Kd.R (Kd.int .i64) 47 w47 w.heap.size (fun k_ => some k_ ≠ (.slice Ao43 y1224.length co43 : Value).ownBlock) (.slice Ao45 t1227.length co45) t1227) := ⟨(by rw [hw]; exact (by (with_reducible repeat (first | apply Kd.R_alloc | apply Kd.R_drewN | apply Kd.R_drew)); exact Kd.R_mono (Kd.R_far (p := ⟨gb1221, 1, none⟩) (Kd.R_types HO1229.out BK1221.out (by decide)) (fun _ hk => hk.2) (.slice Ao45 t1227.length co45)) (fun _ hk => hk.1)))⟩; have n3_ : Aside0 (w47.heap[gb1213]? = some (.cells #[.slice A0_0 l0_0.length c0_0, .slice A0_1 l0_1.length c0_1] 26 (0, 0))) := ⟨(by rw [hw]; exact (by (with_reducible repeat (first | refine blk_drewN ?_ _ | refine blk_drew ?_ | refine blk_alloc ?_ _)); refine blk_far ?_ NB1213_1221.out _; (with_reducible repeat (first | refine blk_drewN ?_ _ | refine blk_drew ?_ | refine blk_alloc ?_ _)); exact BK1213.out))⟩; have n4_ : Aside0 (w47.heap[gb1214]? = some (.cells #[.slice none 0 0, .slice none 0 0] 26 (0, 0))) := ⟨(by rw [hw]; exact (by (with_reducible repeat (first | refine blk_drewN ?_ _ | refine blk_drew ?_ | refine blk_alloc ?_ _)); refine blk_far ?_ NB1214_1221.out _; (with_reducible repeat (first | refine blk_drewN ?_ _ | refine blk_drew ?_ | refine blk_alloc ?_ _)); exact BK1214.out))⟩; have n5_ : Aside0 (w47.heap[gb1221]? = some (.cells #[.slice Ao12 t1215.length co12, .slice Ao45 t1227.length co45] 26 (0, 0))) := ⟨(by rw [hw]; exact (by (with_reducible repeat (first | refine blk_drewN ?_ _ | refine blk_drew ?_ | refine blk_alloc ?_ _)); refine blk_put (cs := #[.slice Ao12 t1215.length co12, .slice Ao16 t1218.length co16]) ?_ 1 _ rfl; (with_reducible repeat (first | refine blk_drewN ?_ _ | refine blk_drew ?_ | refine blk_alloc ?_ _)); exact BK1221.out))⟩; have n6_ : Aside0 (Below w.heap.size w w47) := ⟨(by rw [hw]; exact (by repeat (first | (with_reducible first | exact HB.out | apply below_alloc | apply pw_below_drewN | apply below_drew1 | refine below_set ?_ GE1213.out | refine below_set ?_ GE1214.out | refine below_set ?_ GE1221.out) | exact HB.out)))⟩; clear hw; clear HO_1222000; clear HO1226; clear HO1229; clear BK1213; clear BK1214; clear BK1221; clear HB; have HO_1222000 := n0_; have HO1226 := n1_; have HO1229 := n2_; have BK1213 := n3_; have BK1214 := n4_; have BK1221 := n5_; have HB := n6_; clear n0_ n1_ n2_ n3_ n4_ n5_ n6_; have hcz48_0 : w47.cell? ⟨gb1221, 0, none⟩ = some (.slice Ao12 t1215.length co12) := (blk_cell BK1221.out 0).trans rfl; have hcz48_1 : w47.cell? ⟨gb1221, 1, none⟩ = some (.slice Ao45 t1227.length co45) := (blk_cell BK1221.out 1).trans rfl; have hfz48_0 := blk_frozen BK1221.out 0; have hfz48_1 := blk_frozen BK1221.out 1) | ((with_reducible refine gate_callee (f := 116) rfl ?_); refine goesL_ (some 36) rfl rfl Try.func116 (by kernel_rfl) rfl #[.slice Ao12 t1215.length co12, .int .i64 a1, .int .i64 (wrap64 (a1 + 1))] rfl (by (try simp only [List.map_toArray, List.map_cons, List.map_nil]); first | done | rfl | (simp only [List.length_drop, List.length_take]; rfl)) ?_; (with_reducible refine (slices_Delete_int64_int64.calls (fun k_ => some k_ = (.slice Ao12 t1215.length co12 : Value).ownBlock) (.slice Ao12 t1215.length co12) t1215 a1 (wrap64 (a1 + 1)) t1230 w _ ?side1 ?side2 A37.out).mono ?_); (case side1 => repeat (first | (with_reducible first | exact HB.out | apply below_alloc | apply pw_below_drewN | apply below_drew1 | refine below_set ?_ GE1213.out | refine below_set ?_ GE1214.out | refine below_set ?_ GE1221.out) | exact HB.out)); (case side2 => exact Kd.R_tight rfl HO_1222000.out); rintro e w49 ⟨v1231, rfl, ho0, hb, hkp⟩; refine ⟨_, rfl, ?_⟩; have n0_ := Aside0.mk (blk_kept (by (with_reducible repeat (first | refine blk_drewN ?_ _ | refine blk_drew ?_ | refine blk_alloc ?_ _)); exact BK1213.out) hkp (fun hs_ => (fun e_ => (Kd.R_ne HO_1222000.out BK1213.out (by decide)) e_) hs_)); have n1_ := Aside0.mk (blk_kept (by (with_reducible repeat (first | refine blk_drewN ?_ _ | refine blk_drew ?_ | refine blk_alloc ?_ _)); exact BK1214.out) hkp (fun hs_ => (fun e_ => (Kd.R_ne HO_1222000.out BK1214.out (by decide)) e_) hs_)); have n2_ := Aside0.mk (blk_kept (by (with_reducible repeat (first | refine blk_drewN ?_ _ | refine blk_drew ?_ | refine blk_alloc ?_ _)); exact BK1221.out) hkp (fun hs_ => (fun e_ => (Kd.R_ne HO_1222000.out BK1221.out (by decide)) e_) hs_)); have n3_ := Aside0.mk (Kd.R_mono (ok' := fun k_ => some k_ ≠ (.slice Ao45 t1227.length co45 : Value).ownBlock) (Kd.R_keptB ((Kd.R_apart' HO1226.out (Kd.R_typed HO_1222000.out) (by decide))) hkp (fun k_ hk_ hs_ => (hk_.2) hs_)) (fun k_ hk_ => hk_.1.1)); have n4_ := Aside0.mk (Kd.R_mono (ok' := fun k_ => some k_ ≠ (.slice Ao43 y1224.length co43 : Value).ownBlock) (Kd.R_keptB ((Kd.R_apart' HO1229.out (Kd.R_typed HO_1222000.out) (by decide))) hkp (fun k_ hk_ hs_ => (hk_.2) hs_)) (fun k_ hk_ => hk_.1.1)); have n5_ := Aside0.mk (Kd.R_mono (ok' := fun k_ => True) ho0 (fun k_ hk_ => trivial)); have n6_ := Aside0.mk (hb); clear BK1213; clear BK1214; clear BK1221; clear HO1226; clear HO1229; clear HB; clear HO_1222000; have BK1213 := n0_; have BK1214 := n1_; have BK1221 := n2_; have HO1226 := n3_; have HO1229 := n4_; have HO1232 := n5_; have HB := n6_; clear n0_ n1_ n2_ n3_ n4_ n5_ n6_; (try clear hb); (try clear hkp); (try clear ho0); obtain ⟨Ao50, co50, eo50⟩ := Kd.R_slice HO1232.out; subst eo50; have hcz51_0 : w49.cell? ⟨gb1221, 0, none⟩ = some (.slice Ao12 t1215.length co12) := (blk_cell BK1221.out 0).trans rfl; have hcz51_1 : w49.cell? ⟨gb1221, 1, none⟩ = some (.slice Ao45 t1227.length co45) := (blk_cell BK1221.out 1).trans rfl; have hfz51_0 := blk_frozen BK1221.out 0; have hfz51_1 := blk_frozen BK1221.out 1; have hnb52 := NB1214_1213.out; have hnc52 := NB1213_1214.out; have hcz53_0 : w49.cell? ⟨gb1214, 0, none⟩ = some (.slice none 0 0) := (blk_cell BK1214.out 0).trans rfl; have hcz53_1 : w49.cell? ⟨gb1214, 1, none⟩ = some (.slice none 0 0) := (blk_cell BK1214.out 1).trans rfl; have hfz53_0 := blk_frozen BK1214.out 0; have hfz53_1 := blk_frozen BK1214.out 1))
        refine bodyPost_ret (results_cell_row rfl _ _ gb1214 26 #[.slice Ao50 t1230.length co50, .slice Ao45 t1227.length co45] (0, 0) _ rfl (by (with_reducible repeat (first | refine blk_drewN ?_ _ | refine blk_drew ?_ | refine blk_alloc ?_ _)); refine blk_put (cs := #[.slice Ao50 t1230.length co50, .slice none 0 0]) ?_ 1 _ rfl; (with_reducible repeat (first | refine blk_drewN ?_ _ | refine blk_drew ?_ | refine blk_alloc ?_ _)); refine blk_put (cs := #[.slice none 0 0, .slice none 0 0]) ?_ 0 _ rfl; (with_reducible repeat (first | refine blk_drewN ?_ _ | refine blk_drew ?_ | refine blk_alloc ?_ _)); refine blk_far ?_ NB1214_1221.out _; (with_reducible repeat (first | refine blk_drewN ?_ _ | refine blk_drew ?_ | refine blk_alloc ?_ _)); exact BK1214.out) Try.underlying26 rfl (by kernel_rfl)) rfl ?_
        exact ⟨_, _, by first | rfl | (simp [errW_none, errW_some] <;> rfl) | (simp [*, errW_none, errW_some] <;> rfl), by (with_reducible repeat (first | apply Kd.R_alloc | apply Kd.R_drewN | apply Kd.R_drew)); exact Kd.R_mono (Kd.R_far (p := ⟨gb1214, 1, none⟩) (Kd.R_far (p := ⟨gb1214, 0, none⟩) (Kd.R_far (p := ⟨gb1221, 0, none⟩) (Kd.R_types (Kd.R_types HO1232.out BK1221.out (by decide)) BK1214.out (by decide)) (fun _ hk => hk.1.2) (.slice Ao50 t1230.length co50)) (fun _ hk => hk.2) (.slice Ao50 t1230.length co50)) (fun _ hk => hk.2) (.slice Ao45 t1227.length co45)) (fun _ hk => trivial), by (with_reducible repeat (first | apply Kd.R_alloc | apply Kd.R_drewN | apply Kd.R_drew)); exact Kd.R_mono (Kd.R_far (p := ⟨gb1214, 1, none⟩) (Kd.R_far (p := ⟨gb1214, 0, none⟩) (Kd.R_far (p := ⟨gb1221, 0, none⟩) (Kd.R_types (Kd.R_types HO1229.out BK1221.out (by decide)) BK1214.out (by decide)) (fun _ hk => hk.1.2) (.slice Ao50 t1230.length co50)) (fun _ hk => hk.2) (.slice Ao50 t1230.length co50)) (fun _ hk => hk.2) (.slice Ao45 t1227.length co45)) (fun _ hk => trivial), by repeat (first | (with_reducible first | exact HB.out | apply below_alloc | apply pw_below_drewN | apply below_drew1 | refine below_set ?_ GE1213.out | refine below_set ?_ GE1214.out | refine below_set ?_ GE1221.out) | exact HB.out)⟩

end Go.Proofs.Ytkoiffkonjpoiaa.Q
