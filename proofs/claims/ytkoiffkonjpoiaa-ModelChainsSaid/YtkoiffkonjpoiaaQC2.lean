/- Go functions of the program as plain Lean functions, and for each the contract that the call comes to its answers; written by a turned print of this session. -/
import Derived.Test.YtkoiffkonjpoiaaQ0
import Derived.Test.YtkoiffkonjpoiaaQA1
namespace Go.Proofs.Ytkoiffkonjpoiaa.Q
open Go.RowKit Go.Proofs.YtkoiffkonjpoiaaW.PrintWords Go.Proofs.YtkoiffkonjpoiaaW.PrintLast Go.Proofs.YtkoiffkonjpoiaaW.PrintMore Go.Proofs.YtkoiffkonjpoiaaX
attribute [local go_sem] max2_int min2_int max_two min_two max_three min_three max_four min_four   -- for this text's walks alone
set_option linter.unusedVariables false
set_option linter.unusedSimpArgs false

set_option maxHeartbeats 2000000 in
set_option maxRecDepth 100000 in
theorem one_none (gl : Nat) (A1 : Option Addr) (c1 : Nat) (l1 : List S40) (i : Int) (w : World) (hb : w.heap[gl]? = some (.cells #[.slice A1 l1.length c1] 34 (0, 0))) (hi : i < 0 ∨ (l1.length : Int) ≤ i) :
    Calls Try.prog 110 #[.int .i64 i, .pointer (some ⟨gl, 0, none⟩)] w fun e w' => e = .returned (.agg #[.int .i64 0, .bool false, .int .i64 0, .int .i64 0, .slice none 0 0, .bool false]) ∧ Below w.heap.size w w' := by
  have hu84 := Try.underlying84
  have hcell : w.cell? ⟨gl, 0, none⟩ = some (.slice A1 l1.length c1) := by simp [World.cell?, hb]
  have hlt : gl < w.heap.size := (Array.getElem?_eq_some_iff.1 hb).1
  have hcell' : ∀ o, (w.alloc o).cell? ⟨gl, 0, none⟩ = some (.slice A1 l1.length c1) := fun o => by rw [World.cell?_alloc_past _ _ _ hlt]; exact hcell
  clear hb
  by_cases h1 : i < 0
  · have hd : decide (i < 0) = true := decide_eq_true h1
    go_enter Try.func110, Try.ntmps110
    go_wp2
    exact bodyPost_ret (v := .agg #[.int .i64 0, .bool false, .int .i64 0, .int .i64 0, .slice none 0 0, .bool false]) (by simp [results, Try.results110, go_sem]) rfl ⟨rfl, (Below.refl _ _).alloc (Nat.le_refl _) _⟩
  · have hd : decide (i < 0) = false := decide_eq_false h1
    have h2 : (l1.length : Int) ≤ i := by omega
    have hd2 : decide ((l1.length : Int) ≤ i) = true := decide_eq_true h2
    clear hi
    go_enter Try.func110, Try.ntmps110
    go_wp2
    exact bodyPost_ret (v := .agg #[.int .i64 0, .bool false, .int .i64 0, .int .i64 0, .slice none 0 0, .bool false]) (by simp [results, Try.results110, go_sem]) rfl ⟨rfl, (Below.refl _ _).alloc (Nat.le_refl _) _⟩
set_option maxHeartbeats 2000000 in
set_option maxRecDepth 100000 in
theorem one_some (gl : Nat) (A1 : Option Addr) (c1 : Nat) (l1 : List S40) (i : Nat) (p : S40) (w : World) (hr : Kd.C k40 w A1 l1.length l1) (hb : w.heap[gl]? = some (.cells #[.slice A1 l1.length c1] 34 (0, 0))) (hp : l1[i]? = some p) :
    Calls Try.prog 110 #[.int .i64 i, .pointer (some ⟨gl, 0, none⟩)] w fun e w' => e = .returned (.agg #[.int .i64 0, .bool true, .int .i64 p.f0, .int .i64 p.f1, .slice none 0 0, .bool false]) ∧ Below w.heap.size w w' := by
  have hu84 := Try.underlying84
  have hcell : w.cell? ⟨gl, 0, none⟩ = some (.slice A1 l1.length c1) := by simp [World.cell?, hb]
  have hlt : gl < w.heap.size := (Array.getElem?_eq_some_iff.1 hb).1
  have hcell' : ∀ o, (w.alloc o).cell? ⟨gl, 0, none⟩ = some (.slice A1 l1.length c1) := fun o => by rw [World.cell?_alloc_past _ _ _ hlt]; exact hcell
  have hil : i < l1.length := (List.getElem?_eq_some_iff.1 hp).1
  have hml := C_len hr
  obtain ⟨b, o, rfl, hx0, hx1⟩ := at40 hr (Below.refl _ _) i p hp
  have hblt : b < w.heap.size := World.block_lt_of_cell? w _ hx0
  have hy0 : ∀ ob, (w.alloc ob).cell? ⟨b, o + i * 2, none⟩ = some (.int .i64 p.f0) := fun ob => by rw [World.cell?_alloc_past _ _ _ hblt]; exact hx0
  have hy1 : ∀ ob, (w.alloc ob).cell? ⟨b, o + i * 2 + 1, none⟩ = some (.int .i64 p.f1) := fun ob => by rw [World.cell?_alloc_past _ _ _ hblt]; exact hx1
  have h1 : ¬ ((i : Int) < 0) := by omega
  have hd : decide ((i : Int) < 0) = false := decide_eq_false h1
  have hd2 : decide ((l1.length : Int) ≤ (i : Int)) = false := decide_eq_false (by omega)
  have hd3 : decide (l1.length ≤ i) = false := decide_eq_false (by omega)
  clear hb hp hr
  generalize p.f0 = pa at *
  generalize p.f1 = pb at *
  go_enter Try.func110, Try.ntmps110
  go_wp2
  have g0 := hcell' (.cells #[.int .i64 0, .bool false, .int .i64 0, .int .i64 0, .slice none 0 0, .bool false] 84)
  have x0 := hy0 (.cells #[.int .i64 0, .bool false, .int .i64 0, .int .i64 0, .slice none 0 0, .bool false] 84)
  have x1 := hy1 (.cells #[.int .i64 0, .bool false, .int .i64 0, .int .i64 0, .slice none 0 0, .bool false] 84)
  have n0 : (w.alloc (.cells #[.int .i64 0, .bool false, .int .i64 0, .int .i64 0, .slice none 0 0, .bool false] 84)).cell? ⟨w.heap.size, 0, none⟩ = some (.int .i64 0) := by rw [World.cell?_alloc_at _ _ _ _ rfl]; rfl
  have f0 : (w.alloc (.cells #[.int .i64 0, .bool false, .int .i64 0, .int .i64 0, .slice none 0 0, .bool false] 84)).frozen? ⟨w.heap.size, 0, none⟩ = false := World.frozen?_alloc_at _ _ _ _ rfl
  have n1 : (w.alloc (.cells #[.int .i64 0, .bool false, .int .i64 0, .int .i64 0, .slice none 0 0, .bool false] 84)).cell? ⟨w.heap.size, 1, none⟩ = some (.bool false) := by rw [World.cell?_alloc_at _ _ _ _ rfl]; rfl
  have f1 : (w.alloc (.cells #[.int .i64 0, .bool false, .int .i64 0, .int .i64 0, .slice none 0 0, .bool false] 84)).frozen? ⟨w.heap.size, 1, none⟩ = false := World.frozen?_alloc_at _ _ _ _ rfl
  have n2 : (w.alloc (.cells #[.int .i64 0, .bool false, .int .i64 0, .int .i64 0, .slice none 0 0, .bool false] 84)).cell? ⟨w.heap.size, 2, none⟩ = some (.int .i64 0) := by rw [World.cell?_alloc_at _ _ _ _ rfl]; rfl
  have f2 : (w.alloc (.cells #[.int .i64 0, .bool false, .int .i64 0, .int .i64 0, .slice none 0 0, .bool false] 84)).frozen? ⟨w.heap.size, 2, none⟩ = false := World.frozen?_alloc_at _ _ _ _ rfl
  have n3 : (w.alloc (.cells #[.int .i64 0, .bool false, .int .i64 0, .int .i64 0, .slice none 0 0, .bool false] 84)).cell? ⟨w.heap.size, 3, none⟩ = some (.int .i64 0) := by rw [World.cell?_alloc_at _ _ _ _ rfl]; rfl
  have f3 : (w.alloc (.cells #[.int .i64 0, .bool false, .int .i64 0, .int .i64 0, .slice none 0 0, .bool false] 84)).frozen? ⟨w.heap.size, 3, none⟩ = false := World.frozen?_alloc_at _ _ _ _ rfl
  have n4 : (w.alloc (.cells #[.int .i64 0, .bool false, .int .i64 0, .int .i64 0, .slice none 0 0, .bool false] 84)).cell? ⟨w.heap.size, 4, none⟩ = some (.slice none 0 0) := by rw [World.cell?_alloc_at _ _ _ _ rfl]; rfl
  have f4 : (w.alloc (.cells #[.int .i64 0, .bool false, .int .i64 0, .int .i64 0, .slice none 0 0, .bool false] 84)).frozen? ⟨w.heap.size, 4, none⟩ = false := World.frozen?_alloc_at _ _ _ _ rfl
  have n5 : (w.alloc (.cells #[.int .i64 0, .bool false, .int .i64 0, .int .i64 0, .slice none 0 0, .bool false] 84)).cell? ⟨w.heap.size, 5, none⟩ = some (.bool false) := by rw [World.cell?_alloc_at _ _ _ _ rfl]; rfl
  have f5 : (w.alloc (.cells #[.int .i64 0, .bool false, .int .i64 0, .int .i64 0, .slice none 0 0, .bool false] 84)).frozen? ⟨w.heap.size, 5, none⟩ = false := World.frozen?_alloc_at _ _ _ _ rfl
  have HB : Below w.heap.size w (w.alloc (.cells #[.int .i64 0, .bool false, .int .i64 0, .int .i64 0, .slice none 0 0, .bool false] 84)) := (Below.refl _ _).alloc (Nat.le_refl _) _
  clear hcell hcell' hx0 hx1 hy0 hy1
  refine wp_region_still_tail 11 (by kernel_rfl) (by kernel_rfl) ?_
  change wpStill _ _ (World.drew (w.alloc (.cells #[.int .i64 0, .bool false, .int .i64 0, .int .i64 0, .slice none 0 0, .bool false] 84))) (fun a' => wpList _ _ _ _ a' (World.drew (w.alloc (.cells #[.int .i64 0, .bool false, .int .i64 0, .int .i64 0, .slice none 0 0, .bool false] 84)))) _ _
  change World.cell? (World.drew (w.alloc (.cells #[.int .i64 0, .bool false, .int .i64 0, .int .i64 0, .slice none 0 0, .bool false] 84))) _ = _ at g0 x0 x1 n0 n1 n2 n3 n4 n5
  change World.frozen? (World.drew (w.alloc (.cells #[.int .i64 0, .bool false, .int .i64 0, .int .i64 0, .slice none 0 0, .bool false] 84))) _ = _ at f0 f1 f2 f3 f4 f5
  replace HB : Below w.heap.size w (World.drew (w.alloc (.cells #[.int .i64 0, .bool false, .int .i64 0, .int .i64 0, .slice none 0 0, .bool false] 84))) := below_drew1 HB
  generalize World.drew (w.alloc (.cells #[.int .i64 0, .bool false, .int .i64 0, .int .i64 0, .slice none 0 0, .bool false] 84)) = W at *
  simp only [List.take_succ_cons, List.take_zero, List.drop_succ_cons, List.drop_zero]
  repeat still_step
  refine wpStill_nil ?_
  go_wp2
  exact bodyPost_ret (v := .agg #[.int .i64 0, .bool true, .int .i64 pa, .int .i64 pb, .slice none 0 0, .bool false]) (by simp [results, Try.results110, go_sem, n0, n1, n2, n3, n4, n5]) rfl ⟨rfl, (((((HB.setCell (Nat.le_refl _) _).setCell (Nat.le_refl _) _).setCell (Nat.le_refl _) _).setCell (Nat.le_refl _) _).setCell (Nat.le_refl _) _).setCell (Nat.le_refl _) _⟩

/-- Element i, as an answer: whether it is there, its key, its value. -/
def oneR (l : List S40) (i : Int) : Bool × Int × Int := if 0 ≤ i then match l[i.toNat]? with
  | some p => (true, p.f0, p.f1)
  | none => (false, 0, 0) else (false, 0, 0)
theorem one_any (gl : Nat) (A1 : Option Addr) (c1 : Nat) (l1 : List S40) (i : Int) (w : World) (hr : Kd.C k40 w A1 l1.length l1) (hb : w.heap[gl]? = some (.cells #[.slice A1 l1.length c1] 34 (0, 0))) :
    Calls Try.prog 110 #[.int .i64 i, .pointer (some ⟨gl, 0, none⟩)] w fun e w' => e = .returned (.agg #[.int .i64 0, .bool (oneR l1 i).1, .int .i64 (oneR l1 i).2.1, .int .i64 (oneR l1 i).2.2, .slice none 0 0, .bool false]) ∧ Below w.heap.size w w' := by
  by_cases h0 : 0 ≤ i
  · obtain ⟨n, rfl⟩ := Int.eq_ofNat_of_zero_le h0
    cases hp : l1[n]? with
    | none =>
      have e : oneR l1 n = (false, 0, 0) := by simp [oneR, hp]
      rw [e]
      exact one_none gl A1 c1 l1 n w hb (.inr (by have := List.getElem?_eq_none_iff.1 hp; omega))
    | some p =>
      have e : oneR l1 n = (true, p.f0, p.f1) := by simp [oneR, hp]
      rw [e]
      exact one_some gl A1 c1 l1 n p w hr hb hp
  · have e : oneR l1 i = (false, 0, 0) := by simp [oneR, h0]
    rw [e]
    exact one_none gl A1 c1 l1 i w hb (.inl (by omega))
theorem bcell {W w1 : World} (hb : Below W.heap.size W w1) : (∀ b o, b < W.heap.size → w1.cell? ⟨b, o, none⟩ = W.cell? ⟨b, o, none⟩) ∧ (∀ b o, b < W.heap.size → w1.frozen? ⟨b, o, none⟩ = W.frozen? ⟨b, o, none⟩) :=
  ⟨fun b o h => hb.cell (p := ⟨b, o, none⟩) h, fun b o h => hb.frozen (p := ⟨b, o, none⟩) h⟩
set_option maxHeartbeats 4000000 in
set_option maxRecDepth 100000 in
theorem of_last (k key upto v : Int) (A1 : Option Addr) (c1 : Nat) (l1 : List S40) (w : World) (hr : Kd.C k40 w A1 l1.length l1) (hl : l1.length < 8796093022208) (hk : k = 4 ∨ k = 7) :
    Calls Try.prog 72 #[.agg #[.int .u8 k, .int .i64 key, .int .i64 upto, .int .i64 v], .slice A1 l1.length c1] w fun e w' => e = .returned (.agg #[.int .i64 0, .bool (oneR l1 ((l1.length : Int) - 1)).1, .int .i64 (oneR l1 ((l1.length : Int) - 1)).2.1, .int .i64 (oneR l1 ((l1.length : Int) - 1)).2.2, .slice none 0 0, .bool false]) ∧ Below w.heap.size w w' := by
  have hu84 := Try.underlying84
  have hu78 := Try.underlying78
  have HB1 : Below w.heap.size w (((w.alloc (.cells #[.int .u8 k, .int .i64 key, .int .i64 upto, .int .i64 v] 78)).alloc (.cells #[.slice A1 l1.length c1] 34)).alloc (.cells #[.int .i64 0, .bool false, .int .i64 0, .int .i64 0, .slice none 0 0, .bool false] 84)) := (((Below.refl _ _).alloc (Nat.le_refl _) _).alloc (by simp) _).alloc (by simp; omega) _
  have hc := one_any (w.heap.size + 1) A1 c1 l1 ((l1.length : Int) - 1) _ (Kd.C_below hr HB1) (by
    have h := heap_alloc_new (w.alloc (.cells #[.int .u8 k, .int .i64 key, .int .i64 upto, .int .i64 v] 78)) (.cells #[.slice A1 l1.length c1] 34)
    rw [show (w.alloc (.cells #[.int .u8 k, .int .i64 key, .int .i64 upto, .int .i64 v] 78)).heap.size = w.heap.size + 1 by simp] at h
    exact blk_alloc h _)
  clear hr
  generalize oneR l1 ((l1.length : Int) - 1) = q at hc ⊢
  obtain ⟨qb, qk, qv⟩ := q
  dsimp only at hc ⊢
  have HC := Lib.hid hc
  have HB2 := Lib.hid HB1
  clear hc HB1
  rcases hk with rfl | rfl
  all_goals
    go_enter Try.func72, Try.ntmps72
    go_wp2_with (go_at_call 110; refine HC.out.mono ?_; rintro e w' ⟨rfl, hb⟩; have hcf := bcell hb; obtain ⟨hcc, hff⟩ := hcf; have hz : w.heap.size + 2 < w'.heap.size := by have := hb.size; simp at this; omega)
    exact bodyPost_ret (v := .agg #[.int .i64 0, .bool qb, .int .i64 qk, .int .i64 qv, .slice none 0 0, .bool false]) (by simp [results, Try.results72, go_sem, hcc, hff, hz]) rfl ⟨rfl, (((((((below_then HB2.out HB2.out.size hb).setCell (p := ⟨w.heap.size + 2, _, none⟩) (by simp) _).setCell (p := ⟨w.heap.size + 2, _, none⟩) (by simp) _).setCell (p := ⟨w.heap.size + 2, _, none⟩) (by simp) _).setCell (p := ⟨w.heap.size + 2, _, none⟩) (by simp) _).setCell (p := ⟨w.heap.size + 2, _, none⟩) (by simp) _).setCell (p := ⟨w.heap.size + 2, _, none⟩) (by simp) _)⟩
set_option maxHeartbeats 4000000 in
set_option maxRecDepth 100000 in
theorem of_first (k key upto v : Int) (A1 : Option Addr) (c1 : Nat) (l1 : List S40) (w : World) (hr : Kd.C k40 w A1 l1.length l1) (hl : l1.length < 8796093022208) (hk : k = 5 ∨ k = 6) :
    Calls Try.prog 72 #[.agg #[.int .u8 k, .int .i64 key, .int .i64 upto, .int .i64 v], .slice A1 l1.length c1] w fun e w' => e = .returned (.agg #[.int .i64 0, .bool (oneR l1 (0 : Int)).1, .int .i64 (oneR l1 (0 : Int)).2.1, .int .i64 (oneR l1 (0 : Int)).2.2, .slice none 0 0, .bool false]) ∧ Below w.heap.size w w' := by
  have hu84 := Try.underlying84
  have hu78 := Try.underlying78
  have HB1 : Below w.heap.size w (((w.alloc (.cells #[.int .u8 k, .int .i64 key, .int .i64 upto, .int .i64 v] 78)).alloc (.cells #[.slice A1 l1.length c1] 34)).alloc (.cells #[.int .i64 0, .bool false, .int .i64 0, .int .i64 0, .slice none 0 0, .bool false] 84)) := (((Below.refl _ _).alloc (Nat.le_refl _) _).alloc (by simp) _).alloc (by simp; omega) _
  have hc := one_any (w.heap.size + 1) A1 c1 l1 (0 : Int) _ (Kd.C_below hr HB1) (by
    have h := heap_alloc_new (w.alloc (.cells #[.int .u8 k, .int .i64 key, .int .i64 upto, .int .i64 v] 78)) (.cells #[.slice A1 l1.length c1] 34)
    rw [show (w.alloc (.cells #[.int .u8 k, .int .i64 key, .int .i64 upto, .int .i64 v] 78)).heap.size = w.heap.size + 1 by simp] at h
    exact blk_alloc h _)
  clear hr
  generalize oneR l1 (0 : Int) = q at hc ⊢
  obtain ⟨qb, qk, qv⟩ := q
  dsimp only at hc ⊢
  have HC := Lib.hid hc
  have HB2 := Lib.hid HB1
  clear hc HB1
  rcases hk with rfl | rfl
  all_goals
    go_enter Try.func72, Try.ntmps72
    go_wp2_with (go_at_call 110; refine HC.out.mono ?_; rintro e w' ⟨rfl, hb⟩; have hcf := bcell hb; obtain ⟨hcc, hff⟩ := hcf; have hz : w.heap.size + 2 < w'.heap.size := by have := hb.size; simp at this; omega)
    exact bodyPost_ret (v := .agg #[.int .i64 0, .bool qb, .int .i64 qk, .int .i64 qv, .slice none 0 0, .bool false]) (by simp [results, Try.results72, go_sem, hcc, hff, hz]) rfl ⟨rfl, (((((((below_then HB2.out HB2.out.size hb).setCell (p := ⟨w.heap.size + 2, _, none⟩) (by simp) _).setCell (p := ⟨w.heap.size + 2, _, none⟩) (by simp) _).setCell (p := ⟨w.heap.size + 2, _, none⟩) (by simp) _).setCell (p := ⟨w.heap.size + 2, _, none⟩) (by simp) _).setCell (p := ⟨w.heap.size + 2, _, none⟩) (by simp) _).setCell (p := ⟨w.heap.size + 2, _, none⟩) (by simp) _)⟩
set_option maxHeartbeats 4000000 in
set_option maxRecDepth 100000 in
theorem of_at (k key upto v : Int) (A1 : Option Addr) (c1 : Nat) (l1 : List S40) (w : World) (hr : Kd.C k40 w A1 l1.length l1) (hl : l1.length < 8796093022208) (hk : k = 9) (h0 : 0 ≤ key) (h1 : key < (l1.length : Int)) :
    Calls Try.prog 72 #[.agg #[.int .u8 k, .int .i64 key, .int .i64 upto, .int .i64 v], .slice A1 l1.length c1] w fun e w' => e = .returned (.agg #[.int .i64 0, .bool (oneR l1 key).1, .int .i64 (oneR l1 key).2.1, .int .i64 (oneR l1 key).2.2, .slice none 0 0, .bool false]) ∧ Below w.heap.size w w' := by
  have hu84 := Try.underlying84
  have hu78 := Try.underlying78
  have HB1 : Below w.heap.size w (((w.alloc (.cells #[.int .u8 k, .int .i64 key, .int .i64 upto, .int .i64 v] 78)).alloc (.cells #[.slice A1 l1.length c1] 34)).alloc (.cells #[.int .i64 0, .bool false, .int .i64 0, .int .i64 0, .slice none 0 0, .bool false] 84)) := (((Below.refl _ _).alloc (Nat.le_refl _) _).alloc (by simp) _).alloc (by simp; omega) _
  have hc := one_any (w.heap.size + 1) A1 c1 l1 key _ (Kd.C_below hr HB1) (by
    have h := heap_alloc_new (w.alloc (.cells #[.int .u8 k, .int .i64 key, .int .i64 upto, .int .i64 v] 78)) (.cells #[.slice A1 l1.length c1] 34)
    rw [show (w.alloc (.cells #[.int .u8 k, .int .i64 key, .int .i64 upto, .int .i64 v] 78)).heap.size = w.heap.size + 1 by simp] at h
    exact blk_alloc h _)
  clear hr
  generalize oneR l1 key = q at hc ⊢
  obtain ⟨qb, qk, qv⟩ := q
  dsimp only at hc ⊢
  have HC := Lib.hid hc
  have HB2 := Lib.hid HB1
  clear hc HB1
  have hd1 : decide (key < 0) = false := decide_eq_false (by omega)
  have hd2 : decide ((l1.length : Int) ≤ key) = false := decide_eq_false (by omega)
  subst hk
  all_goals
    go_enter Try.func72, Try.ntmps72
    go_wp2_with (go_at_call 110; refine HC.out.mono ?_; rintro e w' ⟨rfl, hb⟩; have hcf := bcell hb; obtain ⟨hcc, hff⟩ := hcf; have hz : w.heap.size + 2 < w'.heap.size := by have := hb.size; simp at this; omega)
    exact bodyPost_ret (v := .agg #[.int .i64 0, .bool qb, .int .i64 qk, .int .i64 qv, .slice none 0 0, .bool false]) (by simp [results, Try.results72, go_sem, hcc, hff, hz]) rfl ⟨rfl, (((((((below_then HB2.out HB2.out.size hb).setCell (p := ⟨w.heap.size + 2, _, none⟩) (by simp) _).setCell (p := ⟨w.heap.size + 2, _, none⟩) (by simp) _).setCell (p := ⟨w.heap.size + 2, _, none⟩) (by simp) _).setCell (p := ⟨w.heap.size + 2, _, none⟩) (by simp) _).setCell (p := ⟨w.heap.size + 2, _, none⟩) (by simp) _).setCell (p := ⟨w.heap.size + 2, _, none⟩) (by simp) _)⟩
set_option maxHeartbeats 4000000 in
set_option maxRecDepth 100000 in
theorem of_out (k key upto v : Int) (A1 : Option Addr) (c1 : Nat) (l1 : List S40) (w : World) (hl : l1.length < 8796093022208) (hk : k = 9) (h0 : key < 0 ∨ (l1.length : Int) ≤ key) :
    Calls Try.prog 72 #[.agg #[.int .u8 k, .int .i64 key, .int .i64 upto, .int .i64 v], .slice A1 l1.length c1] w fun e w' => e = .returned (.agg #[.int .i64 0, .bool false, .int .i64 0, .int .i64 0, .slice none 0 0, .bool false]) ∧ Below w.heap.size w w' := by
  have hu84 := Try.underlying84
  have hu78 := Try.underlying78
  subst hk
  by_cases hneg : key < 0
  · have hd1 : decide (key < 0) = true := decide_eq_true hneg
    clear h0
    go_enter Try.func72, Try.ntmps72
    go_wp2
    exact bodyPost_ret (v := .agg #[.int .i64 0, .bool false, .int .i64 0, .int .i64 0, .slice none 0 0, .bool false]) (by simp [results, Try.results72, go_sem]) rfl ⟨rfl, (((Below.refl _ _).alloc (Nat.le_refl _) _).alloc (by simp) _).alloc (by simp; omega) _⟩
  have hge : (l1.length : Int) ≤ key := by omega
  have hd1 : decide (key < 0) = false := decide_eq_false hneg
  have hd2 : decide ((l1.length : Int) ≤ key) = true := decide_eq_true hge
  clear h0
  all_goals
    go_enter Try.func72, Try.ntmps72
    go_wp2
    exact bodyPost_ret (v := .agg #[.int .i64 0, .bool false, .int .i64 0, .int .i64 0, .slice none 0 0, .bool false]) (by simp [results, Try.results72, go_sem]) rfl ⟨rfl, (((Below.refl _ _).alloc (Nat.le_refl _) _).alloc (by simp) _).alloc (by simp; omega) _⟩
set_option maxHeartbeats 4000000 in
set_option maxRecDepth 100000 in
theorem of_count (k key upto v : Int) (A1 : Option Addr) (c1 : Nat) (l1 : List S40) (w : World) (hl : l1.length < 8796093022208) (hk : k = 8 ∨ k = 10) :
    Calls Try.prog 72 #[.agg #[.int .u8 k, .int .i64 key, .int .i64 upto, .int .i64 v], .slice A1 l1.length c1] w fun e w' => e = .returned (.agg #[.int .i64 0, .bool true, .int .i64 (l1.length : Int), .int .i64 0, .slice none 0 0, .bool false]) ∧ Below w.heap.size w w' := by
  have hu84 := Try.underlying84
  have hu78 := Try.underlying78
  rcases hk with rfl | rfl
  all_goals
    go_enter Try.func72, Try.ntmps72
    go_wp2
    exact bodyPost_ret (v := .agg #[.int .i64 0, .bool true, .int .i64 (l1.length : Int), .int .i64 0, .slice none 0 0, .bool false]) (by simp [results, Try.results72, go_sem]) rfl ⟨rfl, (((Below.refl _ _).alloc (Nat.le_refl _) _).alloc (by simp) _).alloc (by simp; omega) _⟩
set_option maxHeartbeats 4000000 in
set_option maxRecDepth 100000 in
theorem of_other (k key upto v : Int) (A1 : Option Addr) (c1 : Nat) (l1 : List S40) (w : World) (hl : l1.length < 8796093022208) (h4 : k ≠ 4) (h5 : k ≠ 5) (h6 : k ≠ 6) (h7 : k ≠ 7) (h8 : k ≠ 8) (h9 : k ≠ 9) (h10 : k ≠ 10) (h11 : k ≠ 11) :
    Calls Try.prog 72 #[.agg #[.int .u8 k, .int .i64 key, .int .i64 upto, .int .i64 v], .slice A1 l1.length c1] w fun e w' => e = .returned (.agg #[.int .i64 0, .bool false, .int .i64 0, .int .i64 0, .slice none 0 0, .bool false]) ∧ Below w.heap.size w w' := by
  have hu84 := Try.underlying84
  have hu78 := Try.underlying78
  have b4 : (k == 4) = false := beq_eq_false_iff_ne.2 h4
  have b5 : (k == 5) = false := beq_eq_false_iff_ne.2 h5
  have b6 : (k == 6) = false := beq_eq_false_iff_ne.2 h6
  have b7 : (k == 7) = false := beq_eq_false_iff_ne.2 h7
  have b8 : (k == 8) = false := beq_eq_false_iff_ne.2 h8
  have b9 : (k == 9) = false := beq_eq_false_iff_ne.2 h9
  have b10 : (k == 10) = false := beq_eq_false_iff_ne.2 h10
  have b11 : (k == 11) = false := beq_eq_false_iff_ne.2 h11
  skip
  all_goals
    go_enter Try.func72, Try.ntmps72
    go_wp2
    exact bodyPost_ret (v := .agg #[.int .i64 0, .bool false, .int .i64 0, .int .i64 0, .slice none 0 0, .bool false]) (by simp [results, Try.results72, go_sem]) rfl ⟨rfl, (((Below.refl _ _).alloc (Nat.le_refl _) _).alloc (by simp) _).alloc (by simp; omega) _⟩
set_option maxHeartbeats 4000000 in
set_option maxRecDepth 100000 in
theorem of_range (key upto v : Int) (A1 : Option Addr) (c1 : Nat) (l1 : List S40) (w : World) (hr : Kd.C k40 w A1 l1.length l1) (hc1 : l1.length ≤ c1) (hl : l1.length < 8796093022208) :
    Calls Try.prog 72 #[.agg #[.int .u8 11, .int .i64 key, .int .i64 upto, .int .i64 v], .slice A1 l1.length c1] w fun e w' => ∃ v4 : Value, e = .returned (.agg #[.int .i64 0, .bool true, .int .i64 (l1.length : Int), .int .i64 0, v4, .bool false]) ∧ Kd.R k40 40 w' w.heap.size (fun _ => True) v4 l1 ∧ Below w.heap.size w w' := by
  have hu84 := Try.underlying84
  have hu78 := Try.underlying78
  have HB1 : Below w.heap.size w (((w.alloc (.cells #[.int .u8 11, .int .i64 key, .int .i64 upto, .int .i64 v] 78)).alloc (.cells #[.slice A1 l1.length c1] 34)).alloc (.cells #[.int .i64 0, .bool false, .int .i64 0, .int .i64 0, .slice none 0 0, .bool false] 84)) := (((Below.refl _ _).alloc (Nat.le_refl _) _).alloc (by simp) _).alloc (by simp; omega) _
  have hrn : ∀ n, Kd.C k40 (World.drewN (((w.alloc (.cells #[.int .u8 11, .int .i64 key, .int .i64 upto, .int .i64 v] 78)).alloc (.cells #[.slice A1 l1.length c1] 34)).alloc (.cells #[.int .i64 0, .bool false, .int .i64 0, .int .i64 0, .slice none 0 0, .bool false] 84)) n) A1 l1.length l1 := fun n => Kd.C_below hr (pw_below_drewN HB1 n)
  have hcl : leaf_Pair_99.f l1 = some l1 := by unfold leaf_Pair_99.f; rw [if_pos hl]
  have HCL := Lib.hid hcl
  have HR := Lib.hid hr
  have HB2 := Lib.hid HB1
  clear hcl hr hrn HB1
  go_enter Try.func72, Try.ntmps72
  go_wp2
  go_region_with (go_at_call 99; refine (leaf_Pair_99.calls A1 c1 l1 l1 _ (Kd.C_below HR.out (below_drew1 HB2.out)) hc1 HCL.out).mono ?_; rintro e w' ⟨v0, rfl, hR, hb⟩; obtain ⟨Av, cv, rfl⟩ := Kd.R_slice hR; have hR0 := Lib.hid hR; clear hR; have hcf := bcell hb; obtain ⟨hcc, hff⟩ := hcf; have hz : w.heap.size + 2 < w'.heap.size := by have := hb.size; simp at this; omega)
  all_goals go_wp2
  all_goals
    have hn : ∀ k, (fun k => True ∧ w.heap.size + 3 ≤ k) k → k ≠ w.heap.size + 2 := fun k hk => by have := hk.2; omega
    have hR1 : Kd.R k40 40 w' w.heap.size (fun k => True ∧ w.heap.size + 3 ≤ k) (.slice Av l1.length cv) l1 := Kd.R_lower (Kd.R_mono (Kd.R_bound hR0.out) (fun k hk => ⟨trivial, by have := hk.2.1; simp at this; omega⟩)) (by simp; omega)
    exact bodyPost_ret (v := .agg #[.int .i64 0, .bool true, .int .i64 (l1.length : Int), .int .i64 0, .slice Av l1.length cv, .bool false]) (by simp [results, Try.results72, go_sem, hcc, hff, hz]) rfl ⟨_, rfl, Kd.R_mono (Kd.R_far (p := ⟨w.heap.size + 2, _, none⟩) (Kd.R_far (p := ⟨w.heap.size + 2, _, none⟩) (Kd.R_far (p := ⟨w.heap.size + 2, _, none⟩) (Kd.R_far (p := ⟨w.heap.size + 2, _, none⟩) (Kd.R_far (p := ⟨w.heap.size + 2, _, none⟩) (Kd.R_far (p := ⟨w.heap.size + 2, _, none⟩) hR1 hn _) hn _) hn _) hn _) hn _) hn _) (fun _ _ => trivial), (((((((below_then (below_drew1 HB2.out) (below_drew1 HB2.out).size hb).setCell (p := ⟨w.heap.size + 2, _, none⟩) (by simp) _).setCell (p := ⟨w.heap.size + 2, _, none⟩) (by simp) _).setCell (p := ⟨w.heap.size + 2, _, none⟩) (by simp) _).setCell (p := ⟨w.heap.size + 2, _, none⟩) (by simp) _).setCell (p := ⟨w.heap.size + 2, _, none⟩) (by simp) _).setCell (p := ⟨w.heap.size + 2, _, none⟩) (by simp) _)⟩
/-- What an operation answers, of the pairs that it looks at. -/
def ofR (k key : Int) (l : List S40) : Int × Bool × Int × Int × List S40 × Bool :=
  if k = 4 ∨ k = 7 then (0, (oneR l ((l.length : Int) - 1)).1, (oneR l ((l.length : Int) - 1)).2.1, (oneR l ((l.length : Int) - 1)).2.2, [], false)
  else if k = 5 ∨ k = 6 then (0, (oneR l 0).1, (oneR l 0).2.1, (oneR l 0).2.2, [], false)
  else if k = 9 then (0, (oneR l key).1, (oneR l key).2.1, (oneR l key).2.2, [], false)
  else if k = 8 ∨ k = 10 then (0, true, (l.length : Int), 0, [], false)
  else if k = 11 then (0, true, (l.length : Int), 0, l, false)
  else (0, false, 0, 0, [], false)
def model_Op_Of.f (a0_0 a0_1 a0_2 a0_3 : Int) (l1 : List S40) : Option (Int × Bool × Int × Int × (List S40) × Bool) := if l1.length < 8796093022208 then some (ofR a0_0 a0_1 l1) else none
theorem model_Op_Of.calls (a0_0 a0_1 a0_2 a0_3 : Int) (A1 : Option Addr) (c1 : Nat) (l1 : List S40) (r1 : Int) (r2 : Bool) (r3 : Int) (r4 : Int) (r5 : List S40) (r6 : Bool) (w : World) (hr1 : Kd.C k40 w A1 l1.length l1) (hc1 : l1.length ≤ c1) (h : model_Op_Of.f a0_0 a0_1 a0_2 a0_3 l1 = some (r1, r2, r3, r4, r5, r6)) :
    Calls Try.prog 72 #[.agg #[.int .u8 a0_0, .int .i64 a0_1, .int .i64 a0_2, .int .i64 a0_3], .slice A1 l1.length c1] w fun e w' => ∃ v4_ : Value, e = .returned (.agg #[.int .i64 r1, .bool r2, .int .i64 r3, .int .i64 r4, v4_, .bool r6]) ∧ Kd.R k40 40 w' w.heap.size (fun _ => True) v4_ r5 ∧ Below w.heap.size w w' := by
  unfold model_Op_Of.f at h
  split at h
  · rename_i hl
    have h := Option.some.inj h
    unfold ofR at h
    split at h
    · rename_i hk
      simp only [Prod.mk.injEq] at h
      obtain ⟨rfl, rfl, rfl, rfl, rfl, rfl⟩ := h
      exact (of_last a0_0 a0_1 a0_2 a0_3 A1 c1 l1 w hr1 hl hk).mono fun e w' he => ⟨_, he.1, Kd.R_nil _ _ _ _ _, he.2⟩
    · rename_i hk1
      split at h
      · rename_i hk
        simp only [Prod.mk.injEq] at h
        obtain ⟨rfl, rfl, rfl, rfl, rfl, rfl⟩ := h
        exact (of_first a0_0 a0_1 a0_2 a0_3 A1 c1 l1 w hr1 hl hk).mono fun e w' he => ⟨_, he.1, Kd.R_nil _ _ _ _ _, he.2⟩
      · rename_i hk2
        split at h
        · rename_i hk
          simp only [Prod.mk.injEq] at h
          obtain ⟨rfl, rfl, rfl, rfl, rfl, rfl⟩ := h
          by_cases hin : 0 ≤ a0_1 ∧ a0_1 < (l1.length : Int)
          · exact (of_at a0_0 a0_1 a0_2 a0_3 A1 c1 l1 w hr1 hl hk hin.1 hin.2).mono fun e w' he => ⟨_, he.1, Kd.R_nil _ _ _ _ _, he.2⟩
          · have e0 : oneR l1 a0_1 = (false, 0, 0) := by
              unfold oneR
              split
              · rw [List.getElem?_eq_none (by omega)]
              · rfl
            rw [e0]
            exact (of_out a0_0 a0_1 a0_2 a0_3 A1 c1 l1 w hl hk (by omega)).mono fun e w' he => ⟨_, he.1, Kd.R_nil _ _ _ _ _, he.2⟩
        · rename_i hk3
          split at h
          · rename_i hk
            simp only [Prod.mk.injEq] at h
            obtain ⟨rfl, rfl, rfl, rfl, rfl, rfl⟩ := h
            exact (of_count a0_0 a0_1 a0_2 a0_3 A1 c1 l1 w hl hk).mono fun e w' he => ⟨_, he.1, Kd.R_nil _ _ _ _ _, he.2⟩
          · rename_i hk4
            split at h
            · rename_i hk
              simp only [Prod.mk.injEq] at h
              obtain ⟨rfl, rfl, rfl, rfl, rfl, rfl⟩ := h
              subst hk
              exact of_range a0_1 a0_2 a0_3 A1 c1 l1 w hr1 hc1 hl
            · rename_i hk5
              simp only [Prod.mk.injEq] at h
              obtain ⟨rfl, rfl, rfl, rfl, rfl, rfl⟩ := h
              exact (of_other a0_0 a0_1 a0_2 a0_3 A1 c1 l1 w hl (by omega) (by omega) (by omega) (by omega) (by omega) (by omega) (by omega) hk5).mono fun e w' he => ⟨_, he.1, Kd.R_nil _ _ _ _ _, he.2⟩
  · cases h

end Go.Proofs.Ytkoiffkonjpoiaa.Q
