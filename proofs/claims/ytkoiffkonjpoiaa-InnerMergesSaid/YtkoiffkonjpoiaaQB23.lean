/- Go functions of the program as plain Lean functions, and for each the contract that the call comes to its answers; written by a turned print of this session. -/
import Derived.Test.YtkoiffkonjpoiaaQ0
namespace Go.Proofs.Ytkoiffkonjpoiaa.Q
open Go.RowKit Go.Proofs.YtkoiffkonjpoiaaW.PrintWords Go.Proofs.YtkoiffkonjpoiaaW.PrintLast Go.Proofs.YtkoiffkonjpoiaaW.PrintMore Go.Proofs.YtkoiffkonjpoiaaX
attribute [local go_sem] max2_int min2_int max_two min_two max_three min_three max_four min_four   -- for this text's walks alone
set_option linter.unusedVariables false
set_option linter.unusedSimpArgs false

/-! ### slices_Delete_int64_int64: function 116 (by hand) -/
/-- Without the elements from a1 on up to a2 (one at least). -/
def slices_Delete_int64_int64.f (l0 : List Int) (a1 a2 : Int) : Option (List Int) := if 0 ≤ a1 ∧ a1 < a2 ∧ a2 ≤ (l0.length : Int) then some (l0.take a1.toNat ++ l0.drop a2.toNat) else none
set_option maxHeartbeats 4000000 in
set_option maxRecDepth 100000 in
theorem slices_Delete_int64_int64.low (g n cap i j : Nat) (cur : Array Value) (w : World) (hg : w.heap[g]? = some (.cells cur 2 (0, 0))) (hsz : cur.size = (cap)) (hn : n ≤ cap) (hm : cap ≤ 9223372036854775807) (hij : i < j) (hj : j ≤ n) (h1 : ∀ u ∈ cur.toList.take (n), u.oneCell' = true) :
    Calls Try.prog 116 #[.slice (some ⟨g, 0, none⟩) n cap, .int .i64 i, .int .i64 j] w fun e w' => e = .returned (.slice (some ⟨g, 0, none⟩) (i + (n - j)) cap) ∧ w' = (w.drew.setCells g (i) ((cur.toList.take (n)).drop (j))).setCells g ((i + (n - j))) (Builtin.zeroCells (Value.int .i64 0).cells (n - (i + (n - j)))).toList := by
  obtain ⟨i0, hi0, _, hz1, _⟩ := info_parts info2
  obtain ⟨news, hnews⟩ : ∃ news, news = (cur.toList.take (n)).drop (j) := ⟨_, rfl⟩
  have hlen : news.length = (n - j) := by rw [hnews]; simp; omega
  obtain ⟨A, hA, hsrc⟩ : ∃ A : Addr, (if cap = j then some (⟨g, 0, none⟩ : Addr) else some ⟨g, (j), none⟩) = some A ∧ Hid (∀ t u, news[t]? = some u → w.drew.cell? (A.add t) = some u) := by
    by_cases h : cap = j
    · refine ⟨⟨g, 0, none⟩, by simp [h], Lib.hid fun t u hu => ?_⟩
      have h0 : news.length = 0 := by rw [hlen]; omega
      rw [List.length_eq_zero_iff.1 h0] at hu
      simp at hu
    · refine ⟨⟨g, (j), none⟩, by simp [h], Lib.hid fun t u hu => ?_⟩
      rw [add_lit']
      show w.cell? _ = _
      rw [cells_cell hg]
      rw [hnews, List.getElem?_drop, List.getElem?_take] at hu
      split at hu
      · exact hu
      · cases hu
  have s1 : Hid (news.length = (n - j)) := Lib.hid hlen
  have s2 : Hid (∀ u ∈ news, u.oneCell' = true) := Lib.hid (by
    intro u hu
    rw [hnews] at hu
    exact h1 u (List.mem_of_mem_drop hu))
  have s3 : Hid (∀ t, t < news.length → (w.drew.cell? ⟨g, 0 + (i) + t, none⟩).isSome = true ∧ w.drew.frozen? ⟨g, 0 + (i) + t, none⟩ = false) := Lib.hid (by
    intro t ht
    rw [hlen] at ht
    exact ⟨cells_some (w := w) hg (by omega), cells_free (w := w) hg _⟩)
  obtain ⟨W1, hW1⟩ : ∃ W1, W1 = w.drew.setCells g (0 + (i)) news := ⟨_, rfl⟩
  obtain ⟨cur1, g1, g2, _⟩ := setCells_heap_at g news (0 + (i)) w.drew cur 2 (0, 0) hg (by rw [hlen]; omega)
  rw [← hW1] at g1
  have hcl : ∀ ty c, (Builtin.clear_ #[22] ty #[.slice (some ⟨g, (i + (n - j)), none⟩) (n - (i + (n - j))) c]).run Try.prog W1 = .ok (.tuple #[]) (W1.setCells g ((i + (n - j))) (Builtin.zeroCells (Value.int .i64 0).cells (n - (i + (n - j)))).toList) :=
    fun ty c => run_clear_cells W1 22 2 ty (Value.int .i64 0) Try.underlying22 Try.zeroValue2 g _ _ c (by omega) (zeroCells_one _ _ (by simp [Value.cells, Value.oneCell'])) (fun t ht => cells_some g1 (by rw [zeroCells_len] at ht; simp [Value.cells] at ht; omega)) (fun t _ => cells_free g1 _)
  have hW : Hid (W1 = w.drew.setCells g (0 + (i)) news) := Lib.hid hW1
  have hic : i ≤ cap := by omega
  have hjc : j ≤ cap := by omega
  rw [← hnews]
  rw [show w.drew.setCells g (i) news = W1 from by rw [hW1, Nat.zero_add]]
  clear hW1 hnews hlen g1 g2 hg hsz h1
  go_enter Try.func116, Try.ntmps116
  go_wp2_with fail
  go_region_law (refine step_append_room rfl (.tmp 22) (.tmp 25) 22 rfl 2 i0 1 Try.underlying22 hi0 hz1 g 0 i cap (by simp [Act.eval, Act.put]) A (n - j) (cap - j) news (by simp [Act.eval, Act.put]) (by have := s1.out; omega) hsrc.out s2.out (by omega) (by have := s3.out; (try simp only [Nat.mul_one]); exact this) ?_; (try simp only [Nat.mul_one]); rw [← hW.out])
  go_wp2
  go_ret
  exact ⟨rfl, rfl⟩
set_option maxHeartbeats 1000000 in
theorem slices_Delete_int64_int64.calls (P0_ : Nat → Prop) (u9000_ : Value) (l0 : List Int) (a1 : Int) (a2 : Int) (r : List Int) (w0 w : World) (hB : Below w0.heap.size w0 w) (ho0 : Kd.R (Kd.int .i64) 2 w w0.heap.size P0_ u9000_ l0) (h : slices_Delete_int64_int64.f l0 a1 a2 = some r) :
    Calls Try.prog 116 #[u9000_, .int .i64 a1, .int .i64 a2] w fun e w' => ∃ v0_ : Value, e = .returned v0_ ∧ Kd.R (Kd.int .i64) 2 w' w0.heap.size (fun k_ => (P0_ k_ ∨ w.heap.size ≤ k_)) v0_ r ∧ Below w0.heap.size w0 w' ∧ Kept w w' (fun k_ => P0_ k_) := by
  unfold slices_Delete_int64_int64.f at h
  split at h
  · rename_i hc
    obtain ⟨h0, h1, h2⟩ := hc
    obtain rfl := Option.some.inj h
    obtain ⟨i, rfl⟩ := Int.eq_ofNat_of_zero_le h0
    obtain ⟨j, rfl⟩ := Int.eq_ofNat_of_zero_le (show 0 ≤ a2 by omega)
    rw [Int.toNat_natCast, Int.toNat_natCast]
    obtain ⟨hok, hl, ho⟩ := (R_iff (flat_int .i64)).1 ho0
    rcases ho with ⟨rfl, hz⟩ | ⟨g, cap, cur, rfl, hb, hg, hn, hm, hs, ht⟩
    · omega
    · have hP : P0_ g := hok g rfl
      have hs' : cur.size = cap * 1 := hs
      have ht' : cur.toList.take (l0.length * 1) = l0.flatMap (fun x => [Value.int .i64 x]) := ht
      have hij : i < j := by omega
      have hjl : j ≤ l0.length := by omega
      have hm' : cap ≤ 9223372036854775807 := by simpa [maxLen] using hm
      have hlow : Calls Try.prog 116 #[.slice (some ⟨g, 0, none⟩) l0.length cap, .int .i64 i, .int .i64 j] w fun e w' => e = .returned (.slice (some ⟨g, 0, none⟩) (i + (l0.length - j)) cap) ∧ w' = (w.drew.setCells g (i * 1) ((cur.toList.take (l0.length * 1)).drop (j * 1))).setCells g ((i + (l0.length - j)) * 1) (Builtin.zeroCells (Value.int .i64 0).cells (l0.length - (i + (l0.length - j)))).toList := by
        have hones : ∀ u ∈ cur.toList.take (l0.length * 1), u.oneCell' = true := by rw [ht']; exact Flat.ones (flat_int .i64) l0
        (try simp only [Nat.mul_one] at hones hs' ⊢)
        exact slices_Delete_int64_int64.low g l0.length cap i j cur w hg hs' hn hm' hij hjl hones
      refine hlow.mono ?_
      rintro e w' ⟨rfl, rfl⟩
      rw [ht']
      obtain ⟨cur1, g1, g2, g3⟩ := setCells_heap_at g ((l0.flatMap (fun x => [Value.int .i64 x])).drop (j * 1)) (i * 1) w.drew cur 2 (0, 0) hg (by rw [List.length_drop, flatMap_length (flat_int .i64), hs']; show i * 1 + (l0.length * 1 - j * 1) ≤ _; omega)
      obtain ⟨cur2, k1, k2, k3⟩ := setCells_heap_at g (Builtin.zeroCells (Value.int .i64 0).cells (l0.length - (i + (l0.length - j)))).toList ((i + (l0.length - j)) * 1) _ cur1 2 (0, 0) g1 (by rw [zeroCells_len, g2, hs']; simp [Value.cells]; omega)
      have hlen : (l0.take i ++ l0.drop j).length = i + (l0.length - j) := by simp; omega
      have hcells : cur2.toList.take ((i + (l0.length - j)) * 1) = (l0.take i ++ l0.drop j).flatMap (fun x => [Value.int .i64 x]) := by
        have e1 : ((l0.flatMap (fun x => [Value.int .i64 x])).drop (j * 1)) = (l0.drop j).flatMap (fun x => [Value.int .i64 x]) := flatMap_drop (flat_int .i64) l0 j
        have e2 : cur.toList.take (i * 1) = (l0.take i).flatMap (fun x => [Value.int .i64 x]) := by
          have : (l0.flatMap (fun x => [Value.int .i64 x])).take (i * 1) = (l0.take i).flatMap (fun x => [Value.int .i64 x]) := flatMap_take (flat_int .i64) l0 i
          rw [← this, ← ht', List.take_take]
          congr 1
          omega
        have e3 : ((l0.drop j).flatMap (fun x => [Value.int .i64 x])).length = (l0.length - j) * 1 := by rw [flatMap_length (flat_int .i64), List.length_drop]; rfl
        have e5 : cur1.toList.length = cap * 1 := by simp [g2, hs']
        rw [k3, List.append_assoc, List.take_append_of_le_length (by rw [List.length_take, e5]; omega), List.take_take, Nat.min_self, g3, e1, e2, List.flatMap_append]
        have e4 : ((l0.take i).flatMap (fun x => [Value.int .i64 x]) ++ (l0.drop j).flatMap (fun x => [Value.int .i64 x])).length = (i + (l0.length - j)) * 1 := by
          rw [← List.flatMap_append, flatMap_length (flat_int .i64), hlen]; rfl
        exact List.take_left' e4
      refine ⟨_, rfl, (R_iff (flat_int .i64)).2 ⟨fun k hk => ?_, by rw [flatMap_length (flat_int .i64)], .inr ⟨g, cap, cur2, by rw [hlen], hb, k1, by rw [hlen]; omega, hm, by rw [k2, g2]; exact hs, by rw [hlen]; exact hcells⟩⟩, ?_, ?_⟩
      · have : g = k := by simpa [Value.ownBlock] using hk
        subst this
        exact .inl hP
      · exact bel_setCells (bel_setCells (below_drew1 hB) hb _ _) hb _ _
      · exact kep_setCells (kep_setCells (Kept.drew (Kept.refl w _)) hP _ _) hP _ _
  · cases h

end Go.Proofs.Ytkoiffkonjpoiaa.Q
