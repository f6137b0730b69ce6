/- Go functions of the program as plain Lean functions, and for each the contract that the call comes to its answers; written by a turned print of this session. -/
import Derived.Test.YtkoiffkonjpoiaaQ0
namespace Go.Proofs.Ytkoiffkonjpoiaa.Q
open Go.RowKit Go.Proofs.YtkoiffkonjpoiaaW.PrintWords Go.Proofs.YtkoiffkonjpoiaaW.PrintLast Go.Proofs.YtkoiffkonjpoiaaW.PrintMore Go.Proofs.YtkoiffkonjpoiaaX
attribute [local go_sem] max2_int min2_int max_two min_two max_three min_three max_four min_four   -- for this text's walks alone
set_option linter.unusedVariables false
set_option linter.unusedSimpArgs false

/-! ### slices_Insert_int64_int64: function 114 (by hand) -/
/-- With some elements put in ahead of element a1. -/
def slices_Insert_int64_int64.f (l0 : List Int) (a1 : Int) (l2 : List Int) : Option (List Int) := if 0 ≤ a1 ∧ a1 ≤ (l0.length : Int) ∧ l0.length + l2.length < 17592186044416 then some (l0.take a1.toNat ++ l2 ++ l0.drop a1.toNat) else none
set_option maxHeartbeats 4000000 in
set_option maxRecDepth 100000 in
theorem slices_Insert_int64_int64.shift (g n cap i : Nat) (cur : Array Value) (w : World) (hg : w.heap[g]? = some (.cells cur 2 (0, 0))) (hsz : cur.size = (cap)) (hm : cap ≤ 9223372036854775807) (h1c : ∀ u ∈ cur.toList.take (n), u.oneCell' = true)
    (vb vo m vc : Nat) (vs : List Value) (hvl : vs.length = (m)) (hvs : ∀ j u, vs[j]? = some u → w.cell? ⟨vb, vo + j, none⟩ = some u) (h1v : ∀ u ∈ vs, u.oneCell' = true) (hm0 : 0 < m) (hvb : vb ≠ g)
    (hi : i < n) (hroom : n + m ≤ cap) :
    Calls Try.prog 114 #[.slice (some ⟨g, 0, none⟩) n cap, .int .i64 i, .slice (some ⟨vb, vo, none⟩) m vc] w fun e w' => e = .returned (.slice (some ⟨g, 0, none⟩) (n + m) cap) ∧ w' = (w.drew.setCells g (i + m) ((cur.toList.take (n)).drop (i))).setCells g (i) vs := by
  obtain ⟨i0, hi0, _, hz1, _⟩ := info_parts info2
  have hz1' : ¬ ((m : Int) = 0) := by omega
  have hz2 : ¬ ((i : Int) = (n : Int)) := by omega
  obtain ⟨cs, hcs⟩ : ∃ cs, cs = (cur.toList.take (n)).drop (i) := ⟨_, rfl⟩
  have hcl : cs.length = (n - i) := by rw [hcs]; simp; omega
  have h1s : ∀ u ∈ cs, u.oneCell' = true := fun u hu => h1c u (List.mem_of_mem_drop (hcs ▸ hu))
  rw [← hcs]
  have hv0 : ∃ u, vs[0]? = some u := ⟨_, List.getElem?_eq_getElem (by omega)⟩
  obtain ⟨u0, hu0⟩ := hv0
  have hc0 := hvs 0 u0 hu0
  obtain ⟨cA, tA, fA, hA, hA0⟩ : ∃ cA tA fA, w.heap[vb]? = some (.cells cA tA fA) ∧ cA.size ≠ 0 := by
    unfold World.cell? at hc0
    split at hc0
    · rename_i c t f h
      refine ⟨c, t, f, h, ?_⟩
      simp at hc0
      intro h0
      rw [Array.getElem?_eq_none (by omega)] at hc0
      cases hc0
    · cases hc0
  have hov : ∀ lb cb, (callFunc 131 #[.slice (some ⟨vb, vo, none⟩) m vc, .slice (some ⟨g, (i + m), none⟩) lb cb]).run Try.prog w = .ok (.value (.bool false)) w := fun lb cb => by
    rw [run_callFunc_extern Try.func131 (by kernel_rfl) (by kernel_rfl) (by kernel_rfl) (e := Extern.SlicesOverlaps.overlaps #[22, 22] #[4]) (by kernel_rfl),
      run_overlaps_x w 22 4 2 Try.underlying22 1 Try.sizeOf2 ⟨vb, vo, none⟩ ⟨g, (i + m), none⟩ m vc lb cb hvb tA 2 cA.size cur.size (by simp [World.shape?, hA]) (by simp [World.shape?, hg]) (by omega) hA0 (fun k => cells_free hg k) rfl]
    rfl
  have hcp1 : ∀ ty dc sc, (Builtin.copy_ #[22, 22] ty #[.slice (some ⟨g, (i + m), none⟩) (n + m - (i + m)) dc, .slice (some ⟨g, (i), none⟩) (n + m - i) sc]).run Try.prog w.drew = .ok (goInt (n - i : Nat)) (w.drew.setCells g (i + m) cs) := fun ty dc sc => by
    have hmin : Nat.min (n + m - i) (n + m - (i + m)) = n - i := by simp only [Nat.min_def]; split <;> omega
    have := run_copy_K (P := Try.prog) w.drew 22 22 ty 2 i0 g (i + m) (n + m - (i + m)) dc ⟨g, (i), none⟩ (n + m - i) sc cs Try.underlying22 hi0 (by rw [hmin, hcl, hz1] <;> omega)
      (fun j u hj => by
        rw [add_lit']
        show w.cell? _ = _
        rw [cells_cell hg]
        rw [hcs, List.getElem?_drop, List.getElem?_take] at hj
        split at hj
        · exact hj
        · cases hj)
      (fun j hj => cells_some (w := w) hg (by rw [hcl] at hj; omega)) (fun j _ => cells_free (w := w) hg _) h1s
    rw [hmin] at this
    exact this
  obtain ⟨W1, hW1⟩ : ∃ W1, W1 = w.drew.setCells g (i + m) cs := ⟨_, rfl⟩
  obtain ⟨cur1, g1, g2, _⟩ := setCells_heap_at g cs (i + m) w.drew cur 2 (0, 0) hg (by rw [hcl, hsz]; omega)
  have gv : W1.heap[vb]? = w.heap[vb]? := by rw [hW1]; exact setCells_heap_ne g cs _ w.drew vb hvb
  rw [← hW1] at g1
  have hcp2 : ∀ (W : World), (∀ x, W.cell? x = W1.cell? x) → (∀ x, W.frozen? x = W1.frozen? x) → ∀ ty dc, (Builtin.copy_ #[22, 22] ty #[.slice (some ⟨g, (i), none⟩) (n + m - i) dc, .slice (some ⟨vb, vo, none⟩) m vc]).run Try.prog W = .ok (goInt (m : Nat)) (W.setCells g (i) vs) := fun W hWc hWf ty dc => by
    have hmin : Nat.min m (n + m - i) = m := by simp only [Nat.min_def]; split <;> omega
    have := run_copy_K (P := Try.prog) W 22 22 ty 2 i0 g (i) (n + m - i) dc ⟨vb, vo, none⟩ m vc vs Try.underlying22 hi0 (by rw [hmin, hvl, hz1] <;> omega)
      (fun j u hj => by
        rw [add_lit', hWc]
        have := hvs j u hj
        simp only [World.cell?] at this ⊢
        rw [gv]
        exact this)
      (fun j hj => by rw [hWc]; exact cells_some g1 (by rw [hvl] at hj; omega)) (fun j _ => by rw [hWf]; exact cells_free g1 _) h1v
    rw [hmin] at this
    exact this
  rw [← hW1] at hcp1
  have hw1 : IntKind.i64.wrap ((i : Int) + (m : Int)) = (i : Int) + (m : Int) := by rw [IntKind.wrap_i64]; omega
  have hb1 : (0 : Int) ≤ (i : Int) + (m : Int) := by omega
  have hin : i ≤ n := by omega
  have htn : ((i : Int) + (m : Int)).toNat = i + m := by omega
  have hb2 : ¬ (cap = i + m) := by omega
  have hb3 : (i : Int) ≤ (n : Int) + (m : Int) := by omega
  have hb4 : ¬ (cap = i) := by omega
  have HW := Lib.hid hW1
  rw [← hW1]
  clear hW1 hcs hcl h1s hu0 hc0 hA hA0 g1 g2 gv hg hsz h1c hvl hvs h1v hvb
  go_enter Try.func114, Try.ntmps114
  go_wp2_with (simp only [hov])
  go_region_law (refine stepx_copy rfl _ _ 22 22 rfl _ _ (by simp [Act.eval, Act.put]) (by simp [Act.eval, Act.put]) (hcp1 _ _ _) ?_)
  go_wp2_with (at_builtin; refine wpx_copy _ rfl _ _ 22 22 rfl _ _ rfl rfl (hcp2 _ (fun _ => rfl) (fun _ => rfl) _ _) ?_)
  go_ret
  exact ⟨rfl, rfl⟩
set_option maxHeartbeats 4000000 in
set_option maxRecDepth 100000 in
theorem slices_Insert_int64_int64.grow (g n cap i : Nat) (cur : Array Value) (w : World) (hg : w.heap[g]? = some (.cells cur 2 (0, 0))) (hsz : cur.size = (cap)) (hn : n ≤ cap) (h1c : ∀ u ∈ cur.toList.take (n), u.oneCell' = true)
    (vb vo m vc : Nat) (vs : List Value) (hvl : vs.length = (m)) (hvs : ∀ j u, vs[j]? = some u → w.cell? ⟨vb, vo + j, none⟩ = some u) (h1v : ∀ u ∈ vs, u.oneCell' = true) (hm0 : 0 < m)
    (hi : i < n) (hroom : cap < n + m) (hbig : (n + m) * 8 ≤ 140737488355328) :
    Calls Try.prog 114 #[.slice (some ⟨g, 0, none⟩) n cap, .int .i64 i, .slice (some ⟨vb, vo, none⟩) m vc] w fun e w' => ∃ (G : Nat) (ROW : Array Value), n + m ≤ G ∧ G ≤ maxLen ∧ ROW.size = (G) ∧ ROW.toList.take (i) = (cur.toList.take (n)).take (i) ∧ e = .returned (.slice (some ⟨w.heap.size, 0, none⟩) (n + m) G) ∧ w' = ((w.drew.alloc (.cells ROW 2)).setCells w.heap.size (i) vs).drew.setCells w.heap.size (i + m) ((cur.toList.take (n)).drop (i)) := by
  obtain ⟨i0, hi0, hz0, hz1, hzb⟩ := info_parts info2
  have hz1' : ¬ ((m : Int) = 0) := by omega
  have hz2 : ¬ ((i : Int) = (n : Int)) := by omega
  have hz3 : (cap : Int) < (n : Int) + (m : Int) := by omega
  have hgw : g < w.heap.size := (Array.getElem?_eq_some_iff.1 hg).1
  have hvw : vb < w.heap.size := World.block_lt_of_cell? w _ (hvs 0 _ (List.getElem?_eq_getElem (by omega)))
  obtain ⟨cs, hcs⟩ : ∃ cs, cs = cur.toList.take (n) := ⟨_, rfl⟩
  have hcl : cs.length = (n) := by rw [hcs]; simp; omega
  have hcc : ∀ j u, cs[j]? = some u → w.cell? ⟨g, j, none⟩ = some u := fun j u hj => by
    rw [cells_cell hg]
    rw [hcs, List.getElem?_take] at hj
    split at hj
    · exact hj
    · cases hj
  rw [← hcs] at h1c ⊢
  have hkk : (n : Int) + (m : Int) - (i : Int) = ((n + m - i : Nat) : Int) := by omega
  have hik : i + (n + m - i) = n + m := by omega
  have hold : (Builtin.firstCells i0.size i (.slice (some ⟨g, 0, none⟩) i cap)).run Try.prog w.drew = .ok (cs.take (i)).toArray w.drew := by
    rw [hz1]
    exact run_firstCells_some w.drew 1 i ⟨g, 0, none⟩ i cap (cs.take (i)) (by rw [List.length_take]; omega) (fun j v hj => by
      rw [add_lit', Nat.zero_add]
      rw [List.getElem?_take] at hj
      split at hj
      · exact hcc j v hj
      · cases hj)
  have hG63 : grownCap w (n + m) cap 2 ≤ maxLen := grownCap_le_maxLen w (n + m) cap 2 (by unfold maxLen; omega)
  have hrz : ∀ ty, (Builtin.append_ #[22, 3] ty #[.slice (some ⟨g, 0, none⟩) i cap, .int .i64 ((n : Int) + (m : Int) - (i : Int))]).run Try.prog w =
      .ok (.slice (some ⟨w.heap.size, 0, none⟩) (n + m) (grownCap w (n + m) cap 2)) (w.drew.alloc (.cells ((cs.take (i)).toArray ++ Builtin.zeroCells (Value.int .i64 0).cells (n + m - i) ++ Builtin.zeroCells (Value.int .i64 0).cells (grownCap w (n + m) cap 2 - (n + m))) 2)) := fun ty => by
    have h := Lib.run_append_grow_zeros w 22 3 ty 2 i0 _ .i64 .i64 Try.underlying22 Try.underlying3 hi0 hz0 (some ⟨g, 0, none⟩) i cap (cs.take (i)) hold (n + m - i) (by omega) (by omega) (by omega) (by omega) (by rw [hzb]; omega) (by rw [hzb, hik]; exact growslice_fits hroom hbig)
    rw [hik] at h
    rw [hkk]
    exact h
  have hGn : n + m ≤ grownCap w (n + m) cap 2 := grownCap_ge w _ _ _
  generalize grownCap w (n + m) cap 2 = G at hrz hG63 hGn
  have hG63' : G ≤ 9223372036854775807 := by unfold maxLen at hG63; omega
  obtain ⟨ROW, hROW⟩ : ∃ ROW : Array Value, ROW = (cs.take (i)).toArray ++ Builtin.zeroCells (Value.int .i64 0).cells (n + m - i) ++ Builtin.zeroCells (Value.int .i64 0).cells (G - (n + m)) := ⟨_, rfl⟩
  rw [← hROW] at hrz
  have hRs : ROW.size = (G) := by
    rw [hROW]
    simp [Builtin.zeroCells, Value.cells, hcl]
    omega
  have hRt : ROW.toList.take (i) = cs.take (i) := by
    rw [hROW]
    simp only [Array.toList_append, List.append_assoc]
    exact List.take_left' (by rw [List.length_take, hcl]; omega)
  obtain ⟨W1, hW1⟩ : ∃ W1, W1 = w.drew.alloc (.cells ROW 2) := ⟨_, rfl⟩
  have hN : ∀ j, j < (n + m) → (W1.cell? ⟨w.heap.size, j, none⟩).isSome = true := fun j hj => by
    rw [hW1, World.cell?_alloc_at (w := w.drew) ROW _ w.heap.size j rfl, Array.getElem?_eq_getElem (by rw [hRs]; omega)]; rfl
  have hNf : ∀ j, W1.frozen? ⟨w.heap.size, j, none⟩ = false := fun j => by rw [hW1]; exact World.frozen?_alloc_at (w := w.drew) ROW _ w.heap.size j rfl
  have hOb : ∀ j v, w.cell? ⟨g, j, none⟩ = some v → W1.cell? ⟨g, j, none⟩ = some v := fun j v h => by rw [hW1, World.cell?_alloc_past (w := w.drew) _ g j hgw]; exact h
  have hOv : ∀ j v, w.cell? ⟨vb, j, none⟩ = some v → W1.cell? ⟨vb, j, none⟩ = some v := fun j v h => by rw [hW1, World.cell?_alloc_past (w := w.drew) _ vb j hvw]; exact h
  have hcpA : ∀ (W : World), (∀ x, W.cell? x = W1.cell? x) → (∀ x, W.frozen? x = W1.frozen? x) → ∀ ty dc, (Builtin.copy_ #[22, 22] ty #[.slice (some ⟨w.heap.size, (i), none⟩) (n + m - i) dc, .slice (some ⟨vb, vo, none⟩) m vc]).run Try.prog W = .ok (goInt (m : Nat)) (W.setCells w.heap.size (i) vs) := fun W hWc hWf ty dc => by
    have hmin : Nat.min m (n + m - i) = m := by simp only [Nat.min_def]; split <;> omega
    have := run_copy_K (P := Try.prog) W 22 22 ty 2 i0 w.heap.size (i) (n + m - i) dc ⟨vb, vo, none⟩ m vc vs Try.underlying22 hi0 (by rw [hmin, hvl, hz1] <;> omega)
      (fun j v hj => by rw [add_lit', hWc]; exact hOv _ v (hvs j v hj))
      (fun j hj => by rw [hWc]; exact hN _ (by omega)) (fun j hj => by rw [hWf]; exact hNf _) h1v
    rw [hmin] at this
    exact this
  have hGi : ¬ (G = i) := by omega
  have hGim : ¬ (G = i + m) := by omega
  have hci : ¬ (cap = i) := by omega
  have hgN : g ≠ w.heap.size := by omega
  have hdl : (cs.drop (i)).length = (n - i) := by rw [List.length_drop, hcl] <;> omega
  have hout : ∀ k, ((W1.setCells w.heap.size (i) vs).cell? ⟨g, k, none⟩) = W1.cell? ⟨g, k, none⟩ := fun k => World.cell?_setCells_out _ _ _ _ _ (fun h _ => absurd h hgN)
  obtain ⟨cur1, g1, g2, _⟩ := setCells_heap_at w.heap.size vs (i) W1 ROW 2 (0, 0) (by rw [hW1]; exact heap_alloc_new w.drew _) (by rw [hvl, hRs] <;> omega)
  have hcpB : ∀ (W : World), (∀ x, W.cell? x = (W1.setCells w.heap.size (i) vs).cell? x) → (∀ x, W.frozen? x = (W1.setCells w.heap.size (i) vs).frozen? x) → ∀ ty dc sc, (Builtin.copy_ #[22, 22] ty #[.slice (some ⟨w.heap.size, (i + m), none⟩) (n + m - (i + m)) dc, .slice (some ⟨g, (i), none⟩) (n - i) sc]).run Try.prog W = .ok (goInt (n - i : Nat)) (W.setCells w.heap.size (i + m) (cs.drop (i))) := fun W hWc hWf ty dc sc => by
    have hmin : Nat.min (n - i) (n + m - (i + m)) = n - i := by simp only [Nat.min_def]; split <;> omega
    have := run_copy_K (P := Try.prog) W 22 22 ty 2 i0 w.heap.size (i + m) (n + m - (i + m)) dc ⟨g, (i), none⟩ (n - i) sc (cs.drop (i)) Try.underlying22 hi0 (by rw [hmin, hdl, hz1] <;> omega)
      (fun j v hj => by
        rw [add_lit', hWc, hout]
        exact hOb _ v (hcc _ v (by rwa [List.getElem?_drop] at hj)))
      (fun j hj => by rw [hWc]; exact cells_some g1 (by rw [hdl] at hj; rw [g2, hRs] <;> omega))
      (fun j hj => by rw [hWf]; exact cells_free g1 _) (fun v hv => h1c v (List.mem_of_mem_drop hv))
    rw [hmin] at this
    exact this
  subst hW1
  have hE1 : ∀ x, ((w.alloc (.cells ROW 2)).drew).cell? x = (w.drew.alloc (.cells ROW 2)).cell? x := fun x => rfl
  have hE2 : ∀ x, ((w.alloc (.cells ROW 2)).drew).frozen? x = (w.drew.alloc (.cells ROW 2)).frozen? x := fun x => rfl
  have hF1 : ∀ x, (((w.alloc (.cells ROW 2)).drew.setCells w.heap.size (i) vs).drew).cell? x = ((w.drew.alloc (.cells ROW 2)).setCells w.heap.size (i) vs).cell? x := fun x => rfl
  have hF2 : ∀ x, (((w.alloc (.cells ROW 2)).drew.setCells w.heap.size (i) vs).drew).frozen? x = ((w.drew.alloc (.cells ROW 2)).setCells w.heap.size (i) vs).frozen? x := fun x => rfl
  have hw1 : IntKind.i64.wrap ((i : Int) + (m : Int)) = (i : Int) + (m : Int) := by rw [IntKind.wrap_i64]; omega
  have hb1 : (0 : Int) ≤ (i : Int) + (m : Int) := by omega
  have hin : i ≤ n := by omega
  have htn : ((i : Int) + (m : Int)).toNat = i + m := by omega
  have hb3 : (i : Int) ≤ (n : Int) := by omega
  obtain ⟨Fin, hFin⟩ : ∃ Fin : Ending → World → Prop, Fin = fun e w' => ∃ (G : Nat) (ROW : Array Value), n + m ≤ G ∧ G ≤ maxLen ∧ ROW.size = (G) ∧ ROW.toList.take (i) = cs.take (i) ∧ e = .returned (.slice (some ⟨w.heap.size, 0, none⟩) (n + m) G) ∧ w' = ((w.drew.alloc (.cells ROW 2)).setCells w.heap.size (i) vs).drew.setCells w.heap.size (i + m) (cs.drop (i)) := ⟨_, rfl⟩
  have hdone : Hid (Fin (.returned (.slice (some ⟨w.heap.size, 0, none⟩) (n + m) G)) (((w.drew.alloc (.cells ROW 2)).setCells w.heap.size (i) vs).drew.setCells w.heap.size (i + m) (cs.drop (i)))) := Lib.hid (by rw [hFin]; exact ⟨G, ROW, hGn, hG63, hRs, hRt, rfl, rfl⟩)
  rw [← hFin]
  clear hkk hik hold hROW hRs hRt hFin hN hNf hOb hOv hout g1 g2 hcl hcc hcs hdl hvs hvl hsz hg h1c h1v hG63
  go_enter Try.func114, Try.ntmps114
  go_wp2_with (first
    | (at_builtin; refine Lib.wpList_append_run _ rfl _ _ _ _ rfl _ _ rfl rfl _ _ (hrz _) ?_)
    | (at_builtin; refine wpx_copy _ rfl _ _ 22 22 rfl _ _ rfl rfl (hcpA _ hE1 hE2 _ _) ?_)
    | (at_builtin; refine wpx_copy _ rfl _ _ 22 22 rfl _ _ rfl rfl (hcpB _ (fun _ => rfl) (fun _ => rfl) _ _ _) ?_))
  go_region_law (refine stepx_copy rfl _ _ 22 22 rfl (.slice (some ⟨w.heap.size, (i + m), none⟩) (n + m - (i + m)) (G - (i + m))) (.slice (some ⟨g, (i), none⟩) (n - i) (cap - i)) (by simp [Act.eval, Act.put]) (by simp [Act.eval, Act.put]) (hcpB _ hF1 hF2 3 (G - (i + m)) (cap - i)) ?_)
  go_wp2
  exact hdone.out
set_option maxHeartbeats 2000000 in
set_option maxRecDepth 100000 in
theorem slices_Insert_int64_int64.nothing_ (v : Value) (n i : Nat) (A2 : Option Addr) (c2 : Nat) (w : World) (hv : (v = .slice none 0 0 ∧ n = 0) ∨ ∃ g cap, v = .slice (some ⟨g, 0, none⟩) n cap ∧ n ≤ cap ∧ cap ≤ 9223372036854775807) (hi : i ≤ n) :
    Calls Try.prog 114 #[v, .int .i64 i, .slice A2 0 c2] w fun e w' => e = .returned v ∧ w = w' := by
  rcases hv with ⟨rfl, rfl⟩ | ⟨g, cap, rfl, hn, hm⟩
  · obtain rfl : i = 0 := by omega
    go_enter Try.func114, Try.ntmps114
    go_wp2
    go_ret
    exact ⟨rfl, rfl⟩
  · have hic : i ≤ cap := by omega
    go_enter Try.func114, Try.ntmps114
    go_wp2
    all_goals (go_ret; exact ⟨rfl, rfl⟩)
set_option maxHeartbeats 2000000 in
set_option maxRecDepth 100000 in
theorem slices_Insert_int64_int64.end_ (v v' : Value) (n m : Nat) (A2 : Option Addr) (c2 : Nat) (w w1 : World) (hv : (v = .slice none 0 0 ∧ n = 0) ∨ ∃ g cap, v = .slice (some ⟨g, 0, none⟩) n cap ∧ n ≤ cap ∧ cap ≤ 9223372036854775807) (hm0 : 0 < m)
    (hr : (Builtin.append_ #[22, 22] 22 #[v, .slice A2 m c2]).run Try.prog w = .ok v' w1) :
    Calls Try.prog 114 #[v, .int .i64 n, .slice A2 m c2] w fun e w' => e = .returned v' ∧ w' = w1 := by
  have hz1' : ¬ ((m : Int) = 0) := by omega
  have HR := Lib.hid hr
  clear hr
  rcases hv with ⟨rfl, rfl⟩ | ⟨g, cap, rfl, hn, hm⟩
  · go_enter Try.func114, Try.ntmps114
    go_wp2_with (at_builtin; refine Lib.wpList_append_run _ rfl _ _ _ _ rfl _ _ rfl rfl _ _ HR.out ?_)
    go_ret
    exact ⟨rfl, rfl⟩
  · go_enter Try.func114, Try.ntmps114
    go_wp2_with (at_builtin; refine Lib.wpList_append_run _ rfl _ _ _ _ rfl _ _ rfl rfl _ _ HR.out ?_)
    all_goals (go_ret; exact ⟨rfl, rfl⟩)
set_option maxHeartbeats 1000000 in
theorem slices_Insert_int64_int64.calls (P0_ : Nat → Prop) (u9000_ : Value) (l0 : List Int) (a1 : Int) (A2 : Option Addr) (c2 : Nat) (l2 : List Int) (r : List Int) (w0 w : World) (hB : Below w0.heap.size w0 w) (ho0 : Kd.R (Kd.int .i64) 2 w w0.heap.size P0_ u9000_ l0) (hr2 : ∀ W_, Kept w W_ (fun k_ => P0_ k_) → Kd.C (Kd.int .i64) W_ A2 l2.length l2) (hc2 : l2.length ≤ c2) (h : slices_Insert_int64_int64.f l0 a1 l2 = some r) :
    Calls Try.prog 114 #[u9000_, .int .i64 a1, .slice A2 l2.length c2] w fun e w' => ∃ v0_ : Value, e = .returned v0_ ∧ Kd.R (Kd.int .i64) 2 w' w0.heap.size (fun k_ => (P0_ k_ ∨ w.heap.size ≤ k_)) v0_ r ∧ Below w0.heap.size w0 w' ∧ Kept w w' (fun k_ => P0_ k_) := by
  unfold slices_Insert_int64_int64.f at h
  split at h
  · rename_i hc
    obtain ⟨h0, h1, h2⟩ := hc
    obtain rfl := Option.some.inj h
    clear h
    obtain ⟨i, rfl⟩ := Int.eq_ofNat_of_zero_le h0
    rw [Int.toNat_natCast]
    have hil : i ≤ l0.length := by omega
    clear h0 h1
    obtain ⟨hok, hown⟩ := (R_iff (flat_int .i64)).1 ho0
    have hown' : w.ownsRow w0.heap.size 2 1 u9000_ l0.length (l0.flatMap (fun x => [Value.int .i64 x])) := hown
    have hform : (u9000_ = .slice none 0 0 ∧ l0.length = 0) ∨ ∃ g cap, u9000_ = .slice (some ⟨g, 0, none⟩) l0.length cap ∧ l0.length ≤ cap ∧ cap ≤ 9223372036854775807 := by
      rcases hown'.2 with ⟨h1, h2⟩ | ⟨g, cap, cur, h1, _, _, h2, h3, _⟩
      · exact .inl ⟨h1, h2⟩
      · exact .inr ⟨g, cap, h1, h2, by simpa [maxLen] using h3⟩
    rcases List.eq_nil_or_concat l2 with he | ⟨_, _, he⟩
    · subst he
      refine (slices_Insert_int64_int64.nothing_ u9000_ l0.length i A2 c2 w hform hil).mono ?_
      rintro e w' ⟨rfl, rfl⟩
      refine ⟨_, rfl, ?_, hB, Kept.refl _ _⟩
      rw [List.append_nil, List.take_append_drop]
      exact Kd.R_mono ho0 (fun _ hk => .inl hk)
    · have hne : l2 ≠ [] := by rw [he]; simp
      clear he
      have hm0 : 0 < l2.length := List.length_pos_iff.2 hne
      have hlv : (l2.flatMap (fun x => [Value.int .i64 x])).length = l2.length * 1 := flatMap_length (flat_int .i64) l2
      obtain ⟨vb, vo, rfl, hvs⟩ : ∃ b o, A2 = some ⟨b, o, none⟩ ∧ ∀ j u, (l2.flatMap (fun x => [Value.int .i64 x]))[j]? = some u → w.cell? ⟨b, o + j, none⟩ = some u := by
        rcases C_at (flat_int .i64) (hr2 w (Kept.refl _ _)) with h0 | h0
        · rw [h0] at hlv; simp at hlv; omega
        · exact h0
      by_cases hin : i = l0.length
      · subst hin
        obtain ⟨i0, hi0, hz0, hz1, hzb⟩ := info_parts info2
        obtain ⟨v', w1, hr, ho1, hg1, hb1⟩ := run_append_own_x w 22 22 22 2 i0 _ 1 8 Try.underlying22 Try.underlying22 hi0 hz0 hz1 hzb rfl (by decide) (by decide) w0.heap.size u9000_ l0.length (l0.flatMap (fun x => [Value.int .i64 x])) hown' ⟨vb, vo, none⟩ l2.length c2 (l2.flatMap (fun x => [Value.int .i64 x])) hlv (fun j u hj => by rw [add_lit']; exact hvs j u hj) (Flat.ones (flat_int .i64) l2) (by omega) hB.size
        refine (slices_Insert_int64_int64.end_ u9000_ v' l0.length l2.length _ c2 w w1 hform hm0 hr).mono ?_
        rintro e w' ⟨rfl, rfl⟩
        refine ⟨_, rfl, ?_, hB.grown hg1 hB.size (own_base hown'), Kept.of_grown hg1 (Kept.refl _ _) (fun k hk => .inl (hok k hk))⟩
        rw [List.take_length, List.drop_length, List.append_nil]
        refine (R_iff (flat_int .i64)).2 ⟨fun k hk => ?_, by rw [List.length_append, List.flatMap_append]; exact ho1⟩
        rcases hb1 with hb1 | ⟨b, hb1, hb2⟩
        · exact .inl (hok k (hb1 ▸ hk))
        · rw [hb1] at hk
          obtain rfl := Option.some.inj hk
          exact .inr hb2
      · have hi : i < l0.length := by omega
        rcases hown'.2 with ⟨_, h0⟩ | ⟨g, cap, cur, rfl, hb, hg, hn, hm, hs, ht⟩
        · omega
        · have hP : P0_ g := hok g rfl
          have hm' : cap ≤ 9223372036854775807 := by simpa [maxLen] using hm
          have hvb : vb ≠ g := apart_of_kept (flat_int .i64) hP hne hr2
          have hl0 : (l0.flatMap (fun x => [Value.int .i64 x])).length = l0.length * 1 := flatMap_length (flat_int .i64) l0
          have hones : ∀ u ∈ cur.toList.take (l0.length * 1), u.oneCell' = true := by rw [ht]; exact Flat.ones (flat_int .i64) l0
          have hcl : cur.toList.length = cap * 1 := by rw [Array.length_toList]; exact hs
          have hlr : (l0.take i ++ l2 ++ l0.drop i).length = l0.length + l2.length := by simp; omega
          have e1 : (l0.flatMap (fun x => [Value.int .i64 x])).drop (i * 1) = (l0.drop i).flatMap (fun x => [Value.int .i64 x]) := flatMap_drop (flat_int .i64) l0 i
          have e2 : (l0.flatMap (fun x => [Value.int .i64 x])).take (i * 1) = (l0.take i).flatMap (fun x => [Value.int .i64 x]) := flatMap_take (flat_int .i64) l0 i
          have l1 : ((l0.take i).flatMap (fun x => [Value.int .i64 x])).length = i * 1 := by
            have : ((l0.take i).flatMap (fun x => [Value.int .i64 x])).length = (l0.take i).length * 1 := flatMap_length (flat_int .i64) _
            rw [this, List.length_take, Nat.min_eq_left hil]
          have l3 : ((l0.drop i).flatMap (fun x => [Value.int .i64 x])).length = (l0.length - i) * 1 := by
            have : ((l0.drop i).flatMap (fun x => [Value.int .i64 x])).length = (l0.drop i).length * 1 := flatMap_length (flat_int .i64) _
            rw [this, List.length_drop]
          by_cases hroom : l0.length + l2.length ≤ cap
          · have hlow : Calls Try.prog 114 #[.slice (some ⟨g, 0, none⟩) l0.length cap, .int .i64 i, .slice (some ⟨vb, vo, none⟩) l2.length c2] w fun e w' => e = .returned (.slice (some ⟨g, 0, none⟩) (l0.length + l2.length) cap) ∧ w' = (w.drew.setCells g ((i + l2.length) * 1) ((cur.toList.take (l0.length * 1)).drop (i * 1))).setCells g (i * 1) (l2.flatMap (fun x => [Value.int .i64 x])) := by
              have hs' := hs
              have hlv' := hlv
              (try simp only [Nat.mul_one] at hones hs' hlv' ⊢)
              exact slices_Insert_int64_int64.shift g l0.length cap i cur w hg hs' hm' hones vb vo l2.length c2 (l2.flatMap (fun x => [Value.int .i64 x])) hlv' hvs (Flat.ones (flat_int .i64) l2) hm0 hvb hi hroom
            refine hlow.mono ?_
            rintro e w' ⟨rfl, rfl⟩
            rw [ht, e1]
            obtain ⟨cur1, g1, g2, g3⟩ := setCells_heap_at g ((l0.drop i).flatMap (fun x => [Value.int .i64 x])) ((i + l2.length) * 1) w.drew cur 2 (0, 0) hg (by rw [l3, hs]; omega)
            obtain ⟨cur2, k1, k2, k3⟩ := setCells_heap_at g (l2.flatMap (fun x => [Value.int .i64 x])) (i * 1) _ cur1 2 (0, 0) g1 (by rw [hlv, g2, hs]; omega)
            have hcells : cur2.toList.take ((l0.length + l2.length) * 1) = (l0.take i ++ l2 ++ l0.drop i).flatMap (fun x => [Value.int .i64 x]) := by
              have c1 : cur1.toList.take (i * 1) = (l0.take i).flatMap (fun x => [Value.int .i64 x]) := by
                rw [g3, List.append_assoc, List.take_append_of_le_length (by rw [List.length_take, hcl]; omega), List.take_take, Nat.min_eq_left (by omega), ← e2, ← ht, List.take_take, Nat.min_eq_left (by omega)]
              have c2 : (cur1.toList.drop (i * 1 + (l2.flatMap (fun x => [Value.int .i64 x])).length)).take ((l0.length - i) * 1) = (l0.drop i).flatMap (fun x => [Value.int .i64 x]) := by
                rw [hlv, show i * 1 + l2.length * 1 = (i + l2.length) * 1 by omega, g3, List.append_assoc, List.drop_left' (by rw [List.length_take, hcl]; omega)]
                exact List.take_left' l3
              rw [k3, c1, List.flatMap_append, List.flatMap_append, List.take_append, List.take_of_length_le (by rw [List.length_append, l1, hlv]; omega), List.length_append, l1, hlv]
              congr 1
              rw [show (l0.length + l2.length) * 1 - (i * 1 + l2.length * 1) = (l0.length - i) * 1 by omega, ← hlv]
              exact c2
            refine ⟨_, rfl, (R_iff (flat_int .i64)).2 ⟨fun k hk => ?_, by rw [flatMap_length (flat_int .i64)], .inr ⟨g, cap, cur2, by rw [hlr], hb, k1, by rw [hlr]; omega, hm, by rw [k2, g2]; exact hs, by rw [hlr]; exact hcells⟩⟩, ?_, ?_⟩
            · have : g = k := by simpa [Value.ownBlock] using hk
              subst this
              exact .inl hP
            · exact bel_setCells (bel_setCells (below_drew1 hB) hb _ _) hb _ _
            · exact kep_setCells (kep_setCells (Kept.drew (Kept.refl w _)) hP _ _) hP _ _
          · have hlow : Calls Try.prog 114 #[.slice (some ⟨g, 0, none⟩) l0.length cap, .int .i64 i, .slice (some ⟨vb, vo, none⟩) l2.length c2] w fun e w' => ∃ (G : Nat) (ROW : Array Value), l0.length + l2.length ≤ G ∧ G ≤ maxLen ∧ ROW.size = G * 1 ∧ ROW.toList.take (i * 1) = (cur.toList.take (l0.length * 1)).take (i * 1) ∧ e = .returned (.slice (some ⟨w.heap.size, 0, none⟩) (l0.length + l2.length) G) ∧ w' = ((w.drew.alloc (.cells ROW 2)).setCells w.heap.size (i * 1) (l2.flatMap (fun x => [Value.int .i64 x]))).drew.setCells w.heap.size ((i + l2.length) * 1) ((cur.toList.take (l0.length * 1)).drop (i * 1)) := by
              have hs' := hs
              have hlv' := hlv
              (try simp only [Nat.mul_one] at hones hs' hlv' ⊢)
              exact slices_Insert_int64_int64.grow g l0.length cap i cur w hg hs' hn hones vb vo l2.length c2 (l2.flatMap (fun x => [Value.int .i64 x])) hlv' hvs (Flat.ones (flat_int .i64) l2) hm0 hi (by omega) (by omega)
            refine hlow.mono ?_
            rintro e w' ⟨G, ROW, q1, q2, q3, q4, rfl, rfl⟩
            rw [ht, e2] at q4
            rw [ht, e1]
            obtain ⟨cur1, g1, g2, g3⟩ := setCells_heap_at w.heap.size (l2.flatMap (fun x => [Value.int .i64 x])) (i * 1) (w.drew.alloc (.cells ROW 2)) ROW 2 (0, 0) (heap_alloc_new w.drew _) (by rw [hlv, q3]; omega)
            obtain ⟨cur2, k1, k2, k3⟩ := setCells_heap_at w.heap.size ((l0.drop i).flatMap (fun x => [Value.int .i64 x])) ((i + l2.length) * 1) (World.setCells (w.drew.alloc (.cells ROW 2)) w.heap.size (i * 1) (l2.flatMap (fun x => [Value.int .i64 x]))).drew cur1 2 (0, 0) g1 (by rw [l3, g2, q3]; omega)
            have hcells : cur2.toList.take ((l0.length + l2.length) * 1) = (l0.take i ++ l2 ++ l0.drop i).flatMap (fun x => [Value.int .i64 x]) := by
              have c1 : cur1.toList.take ((i + l2.length) * 1) = (l0.take i).flatMap (fun x => [Value.int .i64 x]) ++ l2.flatMap (fun x => [Value.int .i64 x]) := by
                rw [g3, q4]
                exact List.take_left' (by rw [List.length_append, l1, hlv]; omega)
              rw [k3, c1, List.flatMap_append, List.flatMap_append]
              exact List.take_left' (by rw [List.length_append, List.length_append, l1, hlv, l3]; omega)
            have hbN : Below w0.heap.size w0 (w.drew.alloc (.cells ROW 2)) := below_alloc (below_drew1 hB) _
            have hkN : Kept w (w.drew.alloc (.cells ROW 2)) (fun k_ => P0_ k_ ∨ w.heap.size ≤ k_) := Kept.alloc (Kept.drew (Kept.refl w _)) _
            refine ⟨_, rfl, (R_iff (flat_int .i64)).2 ⟨fun k hk => ?_, by rw [flatMap_length (flat_int .i64)], .inr ⟨w.heap.size, G, cur2, by rw [hlr], hB.size, k1, by rw [hlr]; omega, q2, by rw [k2, g2]; exact q3, by rw [hlr]; exact hcells⟩⟩, ?_, ?_⟩
            · have : w.heap.size = k := by simpa [Value.ownBlock] using hk
              subst this
              exact .inr (Nat.le_refl _)
            · exact bel_setCells (below_drew1 (bel_setCells hbN hB.size _ _)) hB.size _ _
            · have hk2 := kep_setCells (Kept.drew (kep_setCells hkN (b := w.heap.size) (.inr (Nat.le_refl _)) (i * 1) (l2.flatMap (fun x => [Value.int .i64 x])))) (b := w.heap.size) (.inr (Nat.le_refl _)) ((i + l2.length) * 1) ((l0.drop i).flatMap (fun x => [Value.int .i64 x]))
              exact ⟨hk2.1, fun k hk hn => hk2.2 k hk (fun h => h.elim hn (fun h => by omega))⟩
  · cases h

end Go.Proofs.Ytkoiffkonjpoiaa.Q
