/- Several texts of this claim in one: contracts of the program's functions, and plain lemmas about what they compute; each is stated under its own conditions. -/
import Derived.Test.YtkoiffkonjpoiaaQM1
import Derived.Laws.IdiomStrings
import Derived.DeepKeys4
import Derived.Maps.OwnOps
import Derived.Scope
import Derived.Test.YtkoiffkonjpoiaaQM2
import Derived.Deep.Quiet
import Derived.Test.YtkoiffkonjpoiaaQM4
set_option linter.unusedVariables false
set_option linter.unusedSimpArgs false
namespace Go.Proofs.Ytkoiffkonjpoiaa.Q
open Go.RowKit Go.Proofs.YtkoiffkonjpoiaaW.PrintWords Go.Proofs.YtkoiffkonjpoiaaW.PrintLast Go.Proofs.YtkoiffkonjpoiaaW.PrintMore Go.Proofs.YtkoiffkonjpoiaaX
attribute [local go_sem] max2_int min2_int max_two min_two max_three min_three max_four min_four
set_option linter.unusedVariables false
set_option linter.unusedSimpArgs false
/-- An event's cells. -/
def evA (x : S128) (A : Option Addr) (c : Nat) : Array Value := #[.int .i64 x.f0,.int .u8 x.f1.f0,.int .i64 x.f1.f1,.int .i64 x.f1.f2,.int .i64 x.f1.f3,.int .i64 x.f2,.int .i64 x.f3,.int .i64 x.f4.f0,.bool x.f4.f1,.int .i64 x.f4.f2,.int .i64 x.f4.f3,.slice A x.f4.f4.length c,.bool x.f4.f5]
theorem ev_cells {w : World} {g : Nat} {x : S128} {A : Option Addr} {c : Nat} (h : w.heap[g]? = some (.cells (evA x A c) 128 (0,0))) :
    w.cell? ⟨g,0,none⟩ = some (.int .i64 x.f0) ∧ w.cell? ⟨g,1,none⟩ = some (.int .u8 x.f1.f0) ∧ w.cell? ⟨g,2,none⟩ = some (.int .i64 x.f1.f1) ∧ w.cell? ⟨g,3,none⟩ = some (.int .i64 x.f1.f2) ∧ w.cell? ⟨g,4,none⟩ = some (.int .i64 x.f1.f3) ∧ w.cell? ⟨g,5,none⟩ = some (.int .i64 x.f2) ∧ w.cell? ⟨g,6,none⟩ = some (.int .i64 x.f3) ∧ w.cell? ⟨g,7,none⟩ = some (.int .i64 x.f4.f0) ∧ w.cell? ⟨g,8,none⟩ = some (.bool x.f4.f1) ∧ w.cell? ⟨g,9,none⟩ = some (.int .i64 x.f4.f2) ∧ w.cell? ⟨g,10,none⟩ = some (.int .i64 x.f4.f3) ∧ w.cell? ⟨g,11,none⟩ = some (.slice A x.f4.f4.length c) ∧ w.cell? ⟨g,12,none⟩ = some (.bool x.f4.f5) :=
  ⟨(blk_cell h 0).trans rfl,(blk_cell h 1).trans rfl,(blk_cell h 2).trans rfl,(blk_cell h 3).trans rfl,(blk_cell h 4).trans rfl,(blk_cell h 5).trans rfl,(blk_cell h 6).trans rfl,(blk_cell h 7).trans rfl,(blk_cell h 8).trans rfl,(blk_cell h 9).trans rfl,(blk_cell h 10).trans rfl,(blk_cell h 11).trans rfl,(blk_cell h 12).trans rfl⟩
/-- It did nothing. -/
def noneE (x : S128) : Bool := decide (0 ≤ x.f3) && (x.f4.f0 == 3 || x.f4.f0 == 4)
/-- It must be in an order. -/
def mustE (x : S128) : Bool := decide (0 ≤ x.f3) && !(x.f4.f0 == 3 || x.f4.f0 == 4)
set_option maxHeartbeats 4000000 in
set_option maxRecDepth 100000 in
theorem evAns (x : S128) (A : Option Addr) (c : Nat) (w : World) : Calls Try.prog 96 #[.agg (evA x A c)] w fun e w' => e = .returned (.bool (decide (0 ≤ x.f3))) ∧ Below w.heap.size w w' := by
  have hu128 := Try.underlying128
  go_enter Try.func96,Try.ntmps96
  go_wp2_with (with_reducible refine gate_dst (N := 1) rfl ?_;refine box_event ?hg (N := 1) ?hd (cs := evA x A c) (t := 128) ?hr ?_;(case hd => rfl);(case hg => rfl);(case hr => first | (go_simp;done) | (go_simp;rfl));intro g hg w2 hbox hb;clear hg;obtain ⟨z0,z1,z2,z3,z4,z5,z6,z7,z8,z9,z10,z11,z12⟩ := ev_cells hbox)
  go_ret
  exact ⟨by first | rfl | simp,hb⟩
set_option maxHeartbeats 4000000 in
set_option maxRecDepth 100000 in
theorem evNone (x : S128) (A : Option Addr) (c : Nat) (w : World) : Calls Try.prog 95 #[.agg (evA x A c)] w fun e w' => e = .returned (.bool (noneE x)) ∧ Below w.heap.size w w' := by
  have hu128 := Try.underlying128
  unfold noneE
  rcases Bool.eq_false_or_eq_true (decide (0 ≤ x.f3)) with h1 | h1
  · rcases Bool.eq_false_or_eq_true (x.f4.f0 == 3) with h2 | h2
    · rw [h1,h2]
      go_enter Try.func95,Try.ntmps95
      go_wp2_with (first | (with_reducible refine gate_dst (N := 1) rfl ?_;refine box_event ?hg (N := 1) ?hd (cs := evA x A c) (t := 128) ?hr ?_;(case hd => rfl);(case hg => rfl);(case hr => first | (go_simp;done) | (go_simp;rfl));intro g hg w2 hbox hb;clear hg;obtain ⟨z0,z1,z2,z3,z4,z5,z6,z7,z8,z9,z10,z11,z12⟩ := ev_cells hbox) | (go_at_call 96;refine (evAns x A c _).mono ?_;rintro e w3 ⟨rfl,hb2⟩;rw [h1];obtain ⟨z0',z1',z2',z3',z4',z5',z6',z7',z8',z9',z10',z11',z12'⟩ := ev_cells (blk_below hbox hb2)))
      go_ret
      exact ⟨by first | rfl | simp,below_step hb hb2⟩
    · rw [h1,h2]
      go_enter Try.func95,Try.ntmps95
      go_wp2_with (first | (with_reducible refine gate_dst (N := 1) rfl ?_;refine box_event ?hg (N := 1) ?hd (cs := evA x A c) (t := 128) ?hr ?_;(case hd => rfl);(case hg => rfl);(case hr => first | (go_simp;done) | (go_simp;rfl));intro g hg w2 hbox hb;clear hg;obtain ⟨z0,z1,z2,z3,z4,z5,z6,z7,z8,z9,z10,z11,z12⟩ := ev_cells hbox) | (go_at_call 96;refine (evAns x A c _).mono ?_;rintro e w3 ⟨rfl,hb2⟩;rw [h1];obtain ⟨z0',z1',z2',z3',z4',z5',z6',z7',z8',z9',z10',z11',z12'⟩ := ev_cells (blk_below hbox hb2)))
      go_ret
      exact ⟨by first | rfl | simp,below_step hb hb2⟩
  · rw [h1]
    go_enter Try.func95,Try.ntmps95
    go_wp2_with (first | (with_reducible refine gate_dst (N := 1) rfl ?_;refine box_event ?hg (N := 1) ?hd (cs := evA x A c) (t := 128) ?hr ?_;(case hd => rfl);(case hg => rfl);(case hr => first | (go_simp;done) | (go_simp;rfl));intro g hg w2 hbox hb;clear hg;obtain ⟨z0,z1,z2,z3,z4,z5,z6,z7,z8,z9,z10,z11,z12⟩ := ev_cells hbox) | (go_at_call 96;refine (evAns x A c _).mono ?_;rintro e w3 ⟨rfl,hb2⟩;rw [h1]))
    go_ret
    exact ⟨by first | rfl | simp,below_step hb hb2⟩
set_option maxHeartbeats 4000000 in
set_option maxRecDepth 100000 in
theorem evMust (x : S128) (A : Option Addr) (c : Nat) (w : World) : Calls Try.prog 117 #[.agg (evA x A c)] w fun e w' => e = .returned (.bool (mustE x)) ∧ Below w.heap.size w w' := by
  have hu128 := Try.underlying128
  have hm : mustE x = (decide (0 ≤ x.f3) && !noneE x) := by unfold mustE noneE;cases decide (0 ≤ x.f3) <;> simp
  rw [hm]
  rcases Bool.eq_false_or_eq_true (decide (0 ≤ x.f3)) with h1 | h1
  · rw [h1]
    go_enter Try.func117,Try.ntmps117
    go_wp2_with (first | (with_reducible refine gate_dst (N := 1) rfl ?_;refine box_event ?hg (N := 1) ?hd (cs := evA x A c) (t := 128) ?hr ?_;(case hd => rfl);(case hg => rfl);(case hr => first | (go_simp;done) | (go_simp;rfl));intro g hg w2 hbox hb;clear hg;obtain ⟨z0,z1,z2,z3,z4,z5,z6,z7,z8,z9,z10,z11,z12⟩ := ev_cells hbox) | (go_at_call 96;refine (evAns x A c _).mono ?_;rintro e w3 ⟨rfl,hb2⟩;rw [h1];obtain ⟨z0',z1',z2',z3',z4',z5',z6',z7',z8',z9',z10',z11',z12'⟩ := ev_cells (blk_below hbox hb2)) | (go_at_call 95;refine (evNone x A c _).mono ?_;rintro e w4 ⟨rfl,hb3⟩))
    go_ret
    exact ⟨by first | rfl | simp,below_step (below_step hb hb2) hb3⟩
  · rw [h1]
    go_enter Try.func117,Try.ntmps117
    go_wp2_with (first | (with_reducible refine gate_dst (N := 1) rfl ?_;refine box_event ?hg (N := 1) ?hd (cs := evA x A c) (t := 128) ?hr ?_;(case hd => rfl);(case hg => rfl);(case hr => first | (go_simp;done) | (go_simp;rfl));intro g hg w2 hbox hb;clear hg;obtain ⟨z0,z1,z2,z3,z4,z5,z6,z7,z8,z9,z10,z11,z12⟩ := ev_cells hbox) | (go_at_call 96;refine (evAns x A c _).mono ?_;rintro e w3 ⟨rfl,hb2⟩;rw [h1]))
    go_ret
    exact ⟨by first | rfl | simp,below_step hb hb2⟩
set_option maxHeartbeats 4000000 in
set_option maxRecDepth 100000 in
theorem lawMust (x : S128) (A : Option Addr) (c : Nat) (w : World) : Calls Try.prog 119 #[.agg (evA x A c)] w fun e w' => e = .returned (.bool (mustE x)) ∧ Below w.heap.size w w' := by
  have hu128 := Try.underlying128
  unfold mustE
  rcases Bool.eq_false_or_eq_true (decide (0 ≤ x.f3)) with h1 | h1
  · rcases Bool.eq_false_or_eq_true (x.f4.f0 == 3) with h2 | h2
    · rw [h1,h2]
      have h2' : (x.f4.f0 != 3) = false := by rw [bne,h2];rfl
      go_enter Try.func119,Try.ntmps119
      go_wp2_with (first | (with_reducible refine gate_dst (N := 1) rfl ?_;refine box_event ?hg (N := 1) ?hd (cs := evA x A c) (t := 128) ?hr ?_;(case hd => rfl);(case hg => rfl);(case hr => first | (go_simp;done) | (go_simp;rfl));intro g hg w2 hbox hb;clear hg;obtain ⟨z0,z1,z2,z3,z4,z5,z6,z7,z8,z9,z10,z11,z12⟩ := ev_cells hbox))
      go_ret
      exact ⟨by first | rfl | simp,hb⟩
    · rw [h1,h2]
      have h2' : (x.f4.f0 != 3) = true := by rw [bne,h2];rfl
      go_enter Try.func119,Try.ntmps119
      go_wp2_with (first | (with_reducible refine gate_dst (N := 1) rfl ?_;refine box_event ?hg (N := 1) ?hd (cs := evA x A c) (t := 128) ?hr ?_;(case hd => rfl);(case hg => rfl);(case hr => first | (go_simp;done) | (go_simp;rfl));intro g hg w2 hbox hb;clear hg;obtain ⟨z0,z1,z2,z3,z4,z5,z6,z7,z8,z9,z10,z11,z12⟩ := ev_cells hbox))
      go_ret
      exact ⟨by first | rfl | simp [bne],hb⟩
  · rw [h1]
    go_enter Try.func119,Try.ntmps119
    go_wp2_with (first | (with_reducible refine gate_dst (N := 1) rfl ?_;refine box_event ?hg (N := 1) ?hd (cs := evA x A c) (t := 128) ?hr ?_;(case hd => rfl);(case hg => rfl);(case hr => first | (go_simp;done) | (go_simp;rfl));intro g hg w2 hbox hb;clear hg;obtain ⟨z0,z1,z2,z3,z4,z5,z6,z7,z8,z9,z10,z11,z12⟩ := ev_cells hbox))
    go_ret
    exact ⟨by first | rfl | simp,hb⟩
set_option maxHeartbeats 4000000 in
set_option maxRecDepth 100000 in
theorem lawMay (x : S128) (A : Option Addr) (c : Nat) (w : World) : Calls Try.prog 118 #[.agg (evA x A c)] w fun e w' => e = .returned (.bool (!noneE x)) ∧ Below w.heap.size w w' := by
  have hu128 := Try.underlying128
  have hm : (!noneE x) = (decide (x.f3 < 0) || mustE x) := by
    unfold mustE noneE
    by_cases h : 0 ≤ x.f3
    · rw [decide_eq_true h,decide_eq_false (by omega)];simp
    · rw [decide_eq_false h,decide_eq_true (by omega)];simp
  rw [hm]
  rcases Bool.eq_false_or_eq_true (decide (x.f3 < 0)) with h1 | h1
  · rw [h1]
    go_enter Try.func118,Try.ntmps118
    go_wp2_with (first | (with_reducible refine gate_dst (N := 1) rfl ?_;refine box_event ?hg (N := 1) ?hd (cs := evA x A c) (t := 128) ?hr ?_;(case hd => rfl);(case hg => rfl);(case hr => first | (go_simp;done) | (go_simp;rfl));intro g hg w2 hbox hb;clear hg;obtain ⟨z0,z1,z2,z3,z4,z5,z6,z7,z8,z9,z10,z11,z12⟩ := ev_cells hbox))
    go_ret
    exact ⟨by first | rfl | simp,hb⟩
  · rw [h1]
    go_enter Try.func118,Try.ntmps118
    go_wp2_with (first | (with_reducible refine gate_dst (N := 1) rfl ?_;refine box_event ?hg (N := 1) ?hd (cs := evA x A c) (t := 128) ?hr ?_;(case hd => rfl);(case hg => rfl);(case hr => first | (go_simp;done) | (go_simp;rfl));intro g hg w2 hbox hb;clear hg;obtain ⟨z0,z1,z2,z3,z4,z5,z6,z7,z8,z9,z10,z11,z12⟩ := ev_cells hbox) | (go_at_call 119;refine (lawMust x A c _).mono ?_;rintro e w3 ⟨rfl,hb2⟩))
    go_ret
    exact ⟨by first | rfl | simp,below_step hb hb2⟩
end Go.Proofs.Ytkoiffkonjpoiaa.Q
namespace Go.Proofs.Ytkoiffkonjpoiaa.Q
open Go.RowKit Go.Proofs.YtkoiffkonjpoiaaW.PrintWords Go.Proofs.YtkoiffkonjpoiaaW.PrintLast Go.Proofs.YtkoiffkonjpoiaaW.PrintMore Go.Proofs.YtkoiffkonjpoiaaX
attribute [local go_sem] max2_int min2_int max_two min_two max_three min_three max_four min_four
set_option linter.unusedVariables false
set_option linter.unusedSimpArgs false
/-- One byte of a number, and its eight. -/
def by1 (n : Int) (m : Nat) : Int := IntKind.u64.wrap n / 2 ^ (8 * m) % 256
def b8 (n : Int) : List Int := (List.range 8).map (by1 n)
theorem b8_take (n : Int) (m : Nat) (h : m < 8) : (b8 n).take (m + 1) = (b8 n).take m ++ [by1 n m] := by
  rw [List.take_add_one]
  congr 1
  simp [b8,List.getElem?_range h]
def textL (l : List S40) : List Int := l.flatMap fun p => b8 p.f0 ++ b8 p.f1
def txtU (l : List S40) : List UInt8 := (textL l).map fun x => UInt8.ofNat x.toNat
def txt (l : List S40) : ByteArray := ⟨(txtU l).toArray⟩
theorem textL_length (l : List S40) : (textL l).length = l.length * 16 := by
  induction l with
  | nil => rfl
  | cons p l ih => simp only [textL,List.flatMap_cons,List.length_append,List.length_cons] at ih ⊢;rw [ih];simp [b8];omega
theorem run_ix0 (a b : Int) (W : World) : (Instr.index 174 (.agg #[.int .i64 a,.int .i64 b]) (.int .i64 0)).run Try.prog W = .ok (.int .i64 a) W := by kernel_rfl
theorem run_ix1 (a b : Int) (W : World) : (Instr.index 174 (.agg #[.int .i64 a,.int .i64 b]) (.int .i64 1)).run Try.prog W = .ok (.int .i64 b) W := by kernel_rfl
theorem textL_byte (l : List S40) : ∀ x ∈ textL l,0 ≤ x ∧ x < 256 := by
  intro x hx
  obtain ⟨p,_,hp⟩ := List.mem_flatMap.1 hx
  have : ∀ n,x ∈ b8 n → 0 ≤ x ∧ x < 256 := by
    intro n h
    obtain ⟨m,_,rfl⟩ := List.mem_map.1 h
    unfold by1
    omega
  rcases List.mem_append.1 hp with h | h
  · exact this _ h
  · exact this _ h
set_option maxHeartbeats 8000000 in
set_option maxRecDepth 100000 in
theorem text.calls (A : Option Addr) (c : Nat) (l : List S40) (w : World) (hr : Kd.C k40 w A l.length l) (hc : l.length ≤ c) (hm : l.length < 8796093022208) :
    Calls Try.prog 133 #[.slice A l.length c] w fun e w' => e = .returned (.string (txt l)) ∧ Below w.heap.size w w' := by
  have hu109 := Try.underlying109
  have hu34 := Try.underlying34
  have hu40 := Try.underlying40
  have hu174 := Try.underlying174
  have HR := Lib.hid hr
  have HC := Lib.hid hc
  clear hr hc
  have info5 : (Try.prog.info? 5).map (fun i => (i.zero,i.size,i.bytes)) = some (some (.int .u8 0),1,1) := by kernel_rfl
  obtain ⟨i5,hi5,hz5,hs5,hb5⟩ := info_parts info5
  go_enter Try.func133,Try.ntmps133
  go_upto_region 2 with (at_make;refine wpList_make_own _ rfl _ _ 109 rfl w.heap.size 5 i5 (.int .u8 0) 1 Try.underlying109 hi5 hz5 hs5 .i64 .i64 _ (16 * l.length) rfl rfl (by omega) (by rw [hb5];omega) (by unfold maxLen;omega) (Nat.le_refl _) ?_;intro w1 hown hgrow)
  have HO : Hid (Kd.R (Kd.int .u8) 5 w1 w.heap.size (fun _ => True) (.slice (some ⟨w.heap.size,0,none⟩) 0 (16 * l.length)) []) := Lib.hid ((R_iff (flat_int .u8)).2 ⟨fun _ _ => trivial,hown⟩)
  have HB := Lib.hid ((Below.refl w.heap.size w).grown hgrow (Nat.le_refl _) (by simp))
  clear hown hgrow hi5 hz5 hs5 hb5
  go_wp2_with fail
  go_loopg [15,3] l.length (fun gk v15 v3 W => ∃ (i : Nat),v15 = .int .i64 (i : Int) ∧ i ≤ l.length ∧ l.length - i ≤ gk ∧ Hid (Kd.R (Kd.int .u8) 5 W w.heap.size (fun _ => True) v3 (textL (l.take i))) ∧ Hid (Below w.heap.size w W))
  case atStart => exact ⟨0,rfl,by omega,by omega,HO,HB⟩
  case round =>
    clear HO HB
    obtain ⟨i,rfl,hi1,hgk,HO,HB⟩ := hrel
    by_cases hi : i < l.length
    · obtain ⟨p,hp⟩ : ∃ p,p = rd_T40 l (i : Int) := ⟨_,rfl⟩
      obtain ⟨ad,e1,x0,x1⟩ := at_T40 (Kd.C_below HR.out HB.out) (i : Int) (by omega) (by omega)
      rw [← hp,Int.toNat_natCast] at x0
      rw [← hp,Int.toNat_natCast] at x1
      cases e1
      have hid : decide ((i : Int) < (l.length : Int)) = true := decide_eq_true (by omega)
      have hiw : IntKind.i64.wrap ((i : Int) + 1) = (i : Int) + 1 := by rw [IntKind.wrap_i64];omega
      have htk : textL (l.take (i + 1)) = textL (l.take i) ++ (b8 p.f0 ++ b8 p.f1) := by
        have : p = l[i] := by rw [hp];simp [rd_T40,hi]
        unfold textL
        rw [List.take_add_one,List.getElem?_eq_getElem hi,List.flatMap_append,this]
        simp
      have HT := Lib.hid htk
      have hlen : (textL (l.take i)).length = i * 16 := by rw [textL_length,List.length_take,Nat.min_eq_left hi1]
      obtain ⟨pre,hpre⟩ : ∃ pre,pre = textL (l.take i) := ⟨_,rfl⟩
      rw [← hpre] at hlen HO HT
      have HPre := Lib.hid hpre
      have HP := Lib.hid hp
      clear htk hpre hp
      go_wp2_with fail
      go_loopg [24,3] 2 (fun gk v24 v3 W => ∃ (jz : Int) (bs : List Int),v24 = .int .i64 jz ∧ ((jz = 0 ∧ bs = []) ∨ (jz = 1 ∧ bs = b8 p.f0) ∨ (jz = 2 ∧ bs = b8 p.f0 ++ b8 p.f1)) ∧ 2 - jz ≤ gk ∧ Hid (Kd.R (Kd.int .u8) 5 W w.heap.size (fun _ => True) v3 (pre ++ bs)) ∧ Hid (Below w.heap.size w W))
      case atStart => exact ⟨0,[],rfl,.inl ⟨rfl,rfl⟩,by omega,Lib.hid (by rw [List.append_nil];exact Kd.R_alloc HO.out _),Lib.hid (below_alloc HB.out _)⟩
      case round =>
        clear HO HB x0 x1
        obtain ⟨jz,bs,rfl,hj,hjg,HO,HB⟩ := hrel
        rcases hj with ⟨rfl,rfl⟩ | ⟨rfl,rfl⟩ | ⟨rfl,rfl⟩
        · have hix := run_ix0 p.f0 p.f1
          obtain ⟨pr,hpr⟩ : ∃ pr,pr = pre ++ [] := ⟨_,rfl⟩
          rw [← hpr] at HO
          have hprl : pr.length ≤ i * 16 + 8 := by rw [hpr];simp [b8];omega
          have HPr := Lib.hid hpr
          clear hpr
          go_wp2_with fail
          go_loopg [8,3] 8 (fun gk v8 v3 W => ∃ (m : Nat),v8 = .int .i64 (8 * (m : Int)) ∧ m ≤ 8 ∧ 8 - m ≤ gk ∧ Hid (Kd.R (Kd.int .u8) 5 W w.heap.size (fun _ => True) v3 (pr ++ (b8 p.f0).take m)) ∧ Hid (Below w.heap.size w W))
          case atStart => exact ⟨0,by simp,by omega,by omega,Lib.hid (by rw [List.take_zero,List.append_nil];exact HO.out),HB⟩
          case round =>
            clear HO HB
            obtain ⟨m,rfl,hm1,hmg,HO,HB⟩ := hrel
            by_cases hm : m < 8
            · have hmd : decide (8 * (m : Int) < 64) = true := decide_eq_true (by omega)
              have hw8 : IntKind.i64.wrap (8 * (m : Int) + 8) = 8 * ((m + 1 : Nat) : Int) := by rw [IntKind.wrap_i64];omega
              have hle : (pr ++ (b8 p.f0).take m).length + 1 ≤ 140737488355328 := by simp [b8];omega
              go_wp2_with (first | ((with_reducible refine gate_builtin (b := .append) (xs := #[.tmp 31,.tmp 37]) rfl ?_);at_builtin;refine Kd.R_append (Kd.int .u8) (w0 := w) w.heap.size rfl (.tmp 31) (.tmp 37) 109 5 (.int .u8 0) 1 rfl Try.underlying109 info5 rfl (by decide) (by omega) u3 (pr ++ (b8 p.f0).take m) (by1 p.f0 m) [.int .u8 (by1 p.f0 m)] (fun _ => True) (fun _ => False) rfl rfl rfl (fun _ hk => hk.elim) (fun _ _ => trivial) HO.out HB.out (below_size HB.out) (by omega) ?_;intro v1 w5 ho hb hg hat;have HO5 := Lib.hid ho;have HB5 := Lib.hid hb;clear ho hb hg hat))
              go_roundg (8 - (m + 1))
              case rel => exact ⟨m + 1,by first | rfl | exact congrArg _ hw8 | (simp;omega),by omega,by omega,Lib.hid (by rw [b8_take _ _ hm,← List.append_assoc];exact HO5.out),HB5⟩
              all_goals omega
            · obtain rfl : m = 8 := by omega
              have hmd : decide (8 * ((8 : Nat) : Int) < 64) = false := decide_eq_false (by omega)
              have HO8 : Hid (Kd.R (Kd.int .u8) 5 wr w.heap.size (fun _ => True) u3 (pre ++ b8 p.f0)) := Lib.hid (by have h := HO.out;rw [HPr.out,List.take_of_length_le (by simp [b8])] at h;simpa using h)
              go_wp2_with fail
              go_roundg 1
              case rel => exact ⟨_,_,by first | rfl | (simp;done),.inr (.inl ⟨rfl,rfl⟩),by omega,HO8,HB⟩
              all_goals omega
        · have hix := run_ix1 p.f0 p.f1
          obtain ⟨pr,hpr⟩ : ∃ pr,pr = pre ++ b8 p.f0 := ⟨_,rfl⟩
          rw [← hpr] at HO
          have hprl : pr.length ≤ i * 16 + 8 := by rw [hpr];simp [b8];omega
          have HPr := Lib.hid hpr
          clear hpr
          go_wp2_with fail
          go_loopg [8,3] 8 (fun gk v8 v3 W => ∃ (m : Nat),v8 = .int .i64 (8 * (m : Int)) ∧ m ≤ 8 ∧ 8 - m ≤ gk ∧ Hid (Kd.R (Kd.int .u8) 5 W w.heap.size (fun _ => True) v3 (pr ++ (b8 p.f1).take m)) ∧ Hid (Below w.heap.size w W))
          case atStart => exact ⟨0,by simp,by omega,by omega,Lib.hid (by rw [List.take_zero,List.append_nil];exact HO.out),HB⟩
          case round =>
            clear HO HB
            obtain ⟨m,rfl,hm1,hmg,HO,HB⟩ := hrel
            by_cases hm : m < 8
            · have hmd : decide (8 * (m : Int) < 64) = true := decide_eq_true (by omega)
              have hw8 : IntKind.i64.wrap (8 * (m : Int) + 8) = 8 * ((m + 1 : Nat) : Int) := by rw [IntKind.wrap_i64];omega
              have hle : (pr ++ (b8 p.f1).take m).length + 1 ≤ 140737488355328 := by simp [b8];omega
              go_wp2_with (first | ((with_reducible refine gate_builtin (b := .append) (xs := #[.tmp 31,.tmp 37]) rfl ?_);at_builtin;refine Kd.R_append (Kd.int .u8) (w0 := w) w.heap.size rfl (.tmp 31) (.tmp 37) 109 5 (.int .u8 0) 1 rfl Try.underlying109 info5 rfl (by decide) (by omega) u3 (pr ++ (b8 p.f1).take m) (by1 p.f1 m) [.int .u8 (by1 p.f1 m)] (fun _ => True) (fun _ => False) rfl rfl rfl (fun _ hk => hk.elim) (fun _ _ => trivial) HO.out HB.out (below_size HB.out) (by omega) ?_;intro v1 w5 ho hb hg hat;have HO5 := Lib.hid ho;have HB5 := Lib.hid hb;clear ho hb hg hat))
              go_roundg (8 - (m + 1))
              case rel => exact ⟨m + 1,by first | rfl | exact congrArg _ hw8 | (simp;omega),by omega,by omega,Lib.hid (by rw [b8_take _ _ hm,← List.append_assoc];exact HO5.out),HB5⟩
              all_goals omega
            · obtain rfl : m = 8 := by omega
              have hmd : decide (8 * ((8 : Nat) : Int) < 64) = false := decide_eq_false (by omega)
              have HO8 : Hid (Kd.R (Kd.int .u8) 5 wr w.heap.size (fun _ => True) u3 (pre ++ b8 p.f0 ++ b8 p.f1)) := Lib.hid (by have h := HO.out;rw [HPr.out,List.take_of_length_le (by simp [b8])] at h;simpa using h)
              go_wp2_with fail
              go_roundg 0
              case rel => exact ⟨_,_,by first | rfl | (simp;done),.inr (.inr ⟨rfl,rfl⟩),by omega,Lib.hid (by rw [← List.append_assoc];exact HO8.out),HB⟩
              all_goals omega
        · have HO8 : Hid (Kd.R (Kd.int .u8) 5 wr w.heap.size (fun _ => True) u3 (textL (l.take (i + 1)))) := Lib.hid (by rw [HT.out];exact HO.out)
          go_wp2_with fail
          go_roundg (l.length - (i + 1))
          case rel => exact ⟨i + 1,by first | rfl | exact congrArg _ hiw | (simp [hiw]),by omega,by omega,HO8,HB⟩
          all_goals omega
    · obtain rfl : i = l.length := by omega
      have hid : decide ((l.length : Int) < (l.length : Int)) = false := decide_eq_false (by omega)
      obtain ⟨bs,hbs⟩ : ∃ bs,bs = (textL l).map (fun x => UInt8.ofNat x.toNat) := ⟨_,rfl⟩
      have ht : txt l = ⟨bs.toArray⟩ := by rw [hbs];rfl
      have HO8 := HO.out
      rw [List.take_length] at HO8
      obtain ⟨A3,c3,e3⟩ := Kd.R_slice HO8
      subst e3
      obtain ⟨h1,h2,h3⟩ := Kd.R_reads' HO8
      have hbl : bs.length = (textL l).length := by rw [hbs,List.length_map]
      have hcv : (convert 109 9 (.slice A3 (textL l).length c3)).run Try.prog wr = .ok (.string (txt l)) wr := by
        rw [ht,← hbl]
        cases A3 with
        | none =>
          have h0 : textL l = [] := by
            rcases C_at (flat_int .u8) h3 with h | ⟨b,o,h,_⟩
            · cases hx : textL l with
              | nil => rfl
              | cons a r => rw [hx] at h;simp at h
            · cases h
          rw [h0] at hbs
          subst hbs
          rw [run_convert_bytes_string wr 109 9 5 none _ _ Try.underlying109 Try.underlying5 Try.underlying9]
          simp [Conv.bytesToString]
          rfl
        | some ad3 =>
          refine run_convert_bytes_back wr 109 9 5 ad3 c3 bs Try.underlying109 Try.underlying5 Try.underlying9 (fun j hj => ?_)
          have hj2 : j < (textL l).length := by omega
          have hu : bs[j].toNat = (textL l)[j].toNat ∧ 0 ≤ (textL l)[j] := by
            have hb := textL_byte l _ (List.getElem_mem hj2)
            have : bs[j] = UInt8.ofNat (textL l)[j].toNat := by simp [hbs]
            rw [this,UInt8.toNat_ofNat']
            omega
          rcases C_at (flat_int .u8) h3 with h | ⟨b,o,h,hcell⟩
          · cases hx : textL l with
            | nil => rw [hx] at hj2;simp at hj2
            | cons a r => rw [hx] at h;simp at h
          · obtain rfl := Option.some.inj h
            rw [add_lit']
            refine hcell j _ ?_
            have := flatMap_get (flat_int .u8) (textL l) j 0 _ _ (List.getElem?_eq_getElem hj2) rfl
            have hj1 : j * (Kd.int .u8).sz + 0 = j := by show j * 1 + 0 = j;omega
            rw [hj1] at this
            rw [this]
            congr 2
            omega
      clear HO HO8 h3
      go_wp2
      go_ret
      exact ⟨rfl,HB.out⟩
end Go.Proofs.Ytkoiffkonjpoiaa.Q
namespace Go.Proofs.Ytkoiffkonjpoiaa.Q
open Go.RowKit Go.Proofs.YtkoiffkonjpoiaaW.PrintWords Go.Proofs.YtkoiffkonjpoiaaW.PrintLast Go.Proofs.YtkoiffkonjpoiaaW.PrintMore Go.Proofs.YtkoiffkonjpoiaaX
set_option linter.unusedVariables false
set_option linter.unusedSimpArgs false
/-- A key: which are done, and the pairs as a text. -/
def keyV (x : Nat × List UInt8) : Value := .agg #[.int .u64 (x.1 : Int),.string ⟨x.2.toArray⟩]
theorem keyV_inj {x y : Nat × List UInt8} (h : keyV x = keyV y) : x = y := by
  unfold keyV at h
  simp only [Value.agg.injEq,Array.mk.injEq,List.cons.injEq,Value.int.injEq,Value.string.injEq,ByteArray.mk.injEq,and_true,true_and] at h
  exact Prod.ext (by omega) h.2
def okKey (x : Nat × List UInt8) : Prop := x.1 < 18446744073709551616 ∧ x.2.length ≤ maxLen
theorem Try_laidOut : laidOutB Try.prog = true := by kernel_rfl
theorem Try_law : WideMaps.KeyLaw Try.prog 172 := deep_law_laid Try_laidOut (m := 2) (by omega) (of_decide_eq_true (by kernel_rfl)) (by kernel_rfl) (by rw [Try.underlying172])
set_option maxRecDepth 10000 in
theorem keyOf_ok {x : Nat × List UInt8} (h : okKey x) : ∃ kl,keyOf Try.prog 172 (keyV x) = some kl := by
  have hkt : Try.prog.keyType 172 = true := by kernel_rfl
  have hsz : 172 < Try.prog.types.size := of_decide_eq_true (by kernel_rfl)
  have c172 : Try.prog.cellsOf 172 = 2 := by kernel_rfl
  have c153 : Try.prog.cellsOf 153 = 1 := by kernel_rfl
  have c9 : Try.prog.cellsOf 9 = 1 := by kernel_rfl
  have hw : (Lit.int .u64 (x.1 : Int)).wf = true := by
    have h1 := h.1
    show (decide (IntKind.u64.min ≤ (x.1 : Int)) && decide ((x.1 : Int) ≤ IntKind.u64.max)) = true
    have e1 : IntKind.u64.min = 0 := by decide
    have e2 : IntKind.u64.max = 18446744073709551615 := by decide
    rw [e1,e2,decide_eq_true (by omega),decide_eq_true (by omega)]
    rfl
  have hs : (⟨x.2.toArray⟩ : ByteArray).size ≤ maxLen := by show x.2.toArray.size ≤ maxLen;simpa using h.2
  unfold keyOf
  rw [Try.underlying172]
  dsimp only
  obtain ⟨m,hm⟩ : ∃ m,Try.prog.types.size + 1 = m + 2 := ⟨Try.prog.types.size - 1,by omega⟩
  rw [hkt,hm]
  have hf : (keyV x).formed Try.prog 172 = true := by simp [keyV,Value.formed,Try.underlying172,c172]
  rw [hf]
  simp [keyV,Value.cells,Program.keyLits,Try.underlying172,Try.underlying153,Try.underlying9,c172,c153,c9,hw,hs]
/-- What is remembered, in its block. -/
def SeenAt (w : World) (mb : Nat) (seen : List (Nat × List UInt8)) : Prop := (∀ x ∈ seen,okKey x) ∧ ∃ es clock,w.heap[mb]? = some (.map es clock) ∧ es.toList.map (fun e => (e.key,e.val)) = seen.reverse.map (fun x => (keyV x,Value.int .i64 1))
theorem SeenAt.keep {w W : World} {mb : Nat} {seen : List (Nat × List UInt8)} (h : SeenAt w mb seen) (hk : W.heap[mb]? = w.heap[mb]?) : SeenAt W mb seen := by
  obtain ⟨h1,es,clock,h2,h3⟩ := h
  exact ⟨h1,es,clock,hk.trans h2,h3⟩
theorem seen_entry {es : Array MapEntry} {seen : List (Nat × List UInt8)} (h : es.toList.map (fun e => (e.key,e.val)) = seen.reverse.map (fun x => (keyV x,Value.int .i64 1))) {e : MapEntry} (he : e ∈ es.toList) : ∃ x ∈ seen,e.key = keyV x ∧ e.val = .int .i64 1 := by
  have : (e.key,e.val) ∈ seen.reverse.map (fun x => (keyV x,Value.int .i64 1)) := by rw [← h];exact List.mem_map_of_mem he
  obtain ⟨x,hx,hex⟩ := List.mem_map.1 this
  simp only [Prod.mk.injEq] at hex
  exact ⟨x,List.mem_reverse.1 hx,hex.1.symm,hex.2.symm⟩
theorem seen_find (w : World) {es : Array MapEntry} {seen : List (Nat × List UInt8)} (hok : ∀ x ∈ seen,okKey x) (h : es.toList.map (fun e => (e.key,e.val)) = seen.reverse.map (fun x => (keyV x,Value.int .i64 1))) {x : Nat × List UInt8} (hx : okKey x) :
    (x ∉ seen ∧ (Instr.findKey 172 (keyV x) es.toList).run Try.prog w = .ok none w) ∨ (x ∈ seen ∧ ∃ j,(Instr.findKey 172 (keyV x) es.toList).run Try.prog w = .ok (some (j,.int .i64 1)) w) := by
  obtain ⟨kl,hkl⟩ := keyOf_ok hx
  rcases Try_law.find w hkl es.toList (fun e he => by obtain ⟨y,hy,e1,_⟩ := seen_entry h he;rw [e1];exact keyOf_ok (hok y hy)) with ⟨h1,h2⟩ | ⟨j,e,h1,h2,h3⟩
  · refine .inl ⟨fun hm => ?_,h1⟩
    have : (keyV x,Value.int .i64 1) ∈ es.toList.map (fun e => (e.key,e.val)) := by rw [h];exact List.mem_map_of_mem (f := fun x => (keyV x,Value.int .i64 1)) (List.mem_reverse.2 hm)
    obtain ⟨e,he,hee⟩ := List.mem_map.1 this
    simp only [Prod.mk.injEq] at hee
    exact h2 e he hee.1
  · obtain ⟨y,hy,e1,e2⟩ := seen_entry h (List.mem_of_getElem? h2)
    have : y = x := keyV_inj (e1.symm.trans h3)
    subst this
    exact .inr ⟨hy,j,by rw [h1,e2]⟩
theorem run_seen_look {w : World} {mb : Nat} {seen : List (Nat × List UInt8)} (h : SeenAt w mb seen) {x : Nat × List UInt8} (hx : okKey x) :
    (Instr.lookup 152 (.map (some mb)) (keyV x) false).run Try.prog w = .ok (.int .i64 (if x ∈ seen then 1 else 0)) w := by
  obtain ⟨hok,es,clock,hb,hes⟩ := h
  obtain ⟨kl,hkl⟩ := keyOf_ok hx
  have hz : (zeroValue 3).run Try.prog w = .ok (.int .i64 0) w := by kernel_rfl
  have hc := fun em => Try_law.check w em hkl
  rcases seen_find w hok hes hx with ⟨hn,h1⟩ | ⟨hm,j,h1⟩
  · rw [if_neg hn]
    simp [Instr.lookup,run_underlying Try.underlying152,MapKept.run_getObj_map hb,hc,h1,hz,Result.andThen]
  · rw [if_pos hm]
    simp [Instr.lookup,run_underlying Try.underlying152,MapKept.run_getObj_map hb,hc,h1,Result.andThen]
theorem run_seen_put {w : World} {mb : Nat} {seen : List (Nat × List UInt8)} (h : SeenAt w mb seen) {x : Nat × List UInt8} (hx : okKey x) (hn : x ∉ seen) :
    ∃ W,(Instr.mapUpdate 152 (.map (some mb)) (keyV x) (.int .i64 1)).run Try.prog w = .ok () W ∧ SeenAt W mb (x :: seen) ∧ w.grownBy W (some mb) := by
  obtain ⟨hok,es,clock,hb,hes⟩ := h
  obtain ⟨kl,hkl⟩ := keyOf_ok hx
  have hc := fun em => Try_law.check w em hkl
  rcases seen_find w hok hes hx with ⟨_,h1⟩ | ⟨hm,_⟩
  · refine ⟨ChangeMaps.setBlock w mb (.map (es.push { key := keyV x,val := .int .i64 1,born := clock }) (clock + 1)),by simp [Instr.mapUpdate,run_underlying Try.underlying152,MapKept.run_getObj_map hb,hc,h1,MapKept.run_setObj_map _ hb,Result.andThen,ChangeMaps.setBlock],⟨?_,_,_,ChangeMaps.heap_setBlock_same hb _,?_⟩,⟨rfl,rfl,rfl,by simp [ChangeMaps.setBlock],fun i _ hi => ChangeMaps.heap_setBlock_other hb _ (fun e => hi (by rw [e]))⟩⟩
    · intro y hy
      rcases List.mem_cons.1 hy with rfl | hy
      · exact hx
      · exact hok y hy
    · simp [hes]
  · exact absurd hm hn
end Go.Proofs.Ytkoiffkonjpoiaa.Q
namespace Go.Proofs.Ytkoiffkonjpoiaa.Srch
/-- A story: how many events, which must be in an order, which may be, which must stand ahead of which, and what becomes of the map by one of them. -/
structure St (P : Type) where
  n : Nat
  must : Nat → Bool
  may : Nat → Bool
  before : Nat → Nat → Bool
  step : P → Nat → Option P
  bm : ∀ i j,before i j = true → must i = true
section
set_option linter.unusedSimpArgs false
variable {P : Type} (S : St P)
def allIn (D : Nat) : Bool := (List.range S.n).all fun i => !S.must i || D.testBit i
def cand (D i : Nat) : Bool := !D.testBit i && S.may i && (List.range S.n).all fun k => D.testBit k || k == i || !S.before k i
def srch : Nat → Nat → P → Option (List Nat)
  | 0,_,_ => none
  | f + 1,D,p => if allIn S D = true then some [] else (List.range S.n).findSome? fun i => if cand S D i = true then (S.step p i).bind fun q => (srch f (D ||| 1 <<< i) q).map (i :: ·) else none
def mask : List Nat → Nat
  | [] => 0
  | i :: r => (1 <<< i) ||| mask r
theorem testBit_mask (so : List Nat) (k : Nat) : (mask so).testBit k = decide (k ∈ so) := by
  induction so with
  | nil => simp [mask]
  | cons i r ih =>
    rw [mask,Nat.testBit_or,ih]
    by_cases h : k = i
    · subst h;simp
    · have h2 : ¬ i = k := fun e => h e.symm
      simp [Nat.one_shiftLeft,Nat.testBit_two_pow,h2,h]
theorem mask_snoc (so : List Nat) (i : Nat) : mask (so ++ [i]) = mask so ||| 1 <<< i := by
  refine Nat.eq_of_testBit_eq fun k => ?_
  rw [Nat.testBit_or,testBit_mask,testBit_mask]
  by_cases h : k = i
  · subst h;simp
  · have h2 : ¬ i = k := fun e => h e.symm
    simp [Nat.one_shiftLeft,Nat.testBit_two_pow,h2,h]
def chain : P → List Nat → Option P
  | p,[] => some p
  | p,i :: r => (S.step p i).bind fun q => chain q r
theorem chain_append (p : P) (a b : List Nat) : chain S p (a ++ b) = (chain S p a).bind fun q => chain S q b := by
  induction a generalizing p with
  | nil => rfl
  | cons i r ih =>
    simp only [List.cons_append,chain]
    cases S.step p i with
    | none => rfl
    | some q => simpa using ih q
def Fits (p : P) (so : List Nat) : Prop := so.Nodup ∧ (∀ i ∈ so,i < S.n ∧ S.may i = true) ∧ so.Pairwise (fun j i => S.before i j = false) ∧ (chain S p so).isSome = true
def Whole (so : List Nat) : Prop := ∀ i,i < S.n → S.must i = true → i ∈ so
def Legal (p : P) (so : List Nat) : Prop := Fits S p so ∧ Whole S so
/-- Nothing that is not in it yet must stand ahead of what is in it. -/
def Open (so : List Nat) : Prop := ∀ j ∈ so,∀ k,k < S.n → k ∉ so → S.before k j = false
def LegalFrom : Nat → P → List Nat → Prop
  | D,_,[] => allIn S D = true
  | D,p,i :: r => cand S D i = true ∧ i < S.n ∧ ∃ q,S.step p i = some q ∧ LegalFrom (D ||| 1 <<< i) q r
theorem allIn_mask (so : List Nat) : allIn S (mask so) = true ↔ Whole S so := by
  simp only [allIn,Whole,List.all_eq_true,List.mem_range,Bool.or_eq_true,Bool.not_eq_true',testBit_mask,decide_eq_true_eq]
  constructor
  · intro h i hi hm
    rcases h i hi with h | h
    · rw [hm] at h;cases h
    · exact h
  · intro h i hi
    cases hm : S.must i with
    | false => exact .inl rfl
    | true => exact .inr (h i hi hm)
theorem cand_mask (so : List Nat) (i : Nat) : cand S (mask so) i = true ↔ i ∉ so ∧ S.may i = true ∧ ∀ k,k < S.n → k ∉ so → k ≠ i → S.before k i = false := by
  simp only [cand,Bool.and_eq_true,Bool.not_eq_true',List.all_eq_true,List.mem_range,Bool.or_eq_true,testBit_mask,decide_eq_true_eq,decide_eq_false_iff_not,beq_iff_eq,and_assoc]
  refine and_congr_right fun _ => and_congr_right fun _ => forall_congr' fun k => forall_congr' fun hk => ?_
  constructor
  · rintro ((h | h) | h) hn hne
    · exact absurd h hn
    · exact absurd h hne
    · exact h
  · intro h
    by_cases h1 : k ∈ so
    · exact .inl (.inl h1)
    by_cases h2 : k = i
    · exact .inl (.inr h2)
    exact .inr (h h1 h2)
theorem fits_snoc {p q : P} {so : List Nat} (hF : Fits S p so) (hO : Open S so) (hc : chain S p so = some q) (i : Nat) :
    Fits S p (so ++ [i]) ↔ i ∉ so ∧ i < S.n ∧ S.may i = true ∧ (S.step q i).isSome = true := by
  obtain ⟨h1,h2,h3,h4⟩ := hF
  constructor
  · rintro ⟨g1,g2,g3,g4⟩
    have hi := g2 i (by simp)
    refine ⟨fun hm => ?_,hi.1,hi.2,?_⟩
    · have := (List.nodup_append.1 g1).2.2 i hm i (by simp)
      exact this rfl
    · rw [chain_append,hc] at g4
      simp only [Option.bind_some,chain] at g4
      cases hs : S.step q i with
      | none => rw [hs] at g4;cases g4
      | some r => rfl
  · rintro ⟨g1,g2,g3,g4⟩
    refine ⟨?_,?_,?_,?_⟩
    · refine List.nodup_append.2 ⟨h1,by simp,fun a ha b hb => ?_⟩
      obtain rfl : b = i := by simpa using hb
      exact fun e => g1 (e ▸ ha)
    · intro j hj
      rcases List.mem_append.1 hj with hj | hj
      · exact h2 j hj
      · obtain rfl : j = i := by simpa using hj
        exact ⟨g2,g3⟩
    · refine List.pairwise_append.2 ⟨h3,by simp,fun j hj b hb => ?_⟩
      obtain rfl : b = i := by simpa using hb
      exact hO j hj b g2 g1
    · rw [chain_append,hc]
      simp only [Option.bind_some,chain]
      cases hs : S.step q i with
      | none => rw [hs] at g4;cases g4
      | some r => rfl
theorem chain_snoc {p q r : P} {so : List Nat} {i : Nat} (hc : chain S p so = some q) (hs : S.step q i = some r) : chain S p (so ++ [i]) = some r := by
  rw [chain_append,hc]
  simp [chain,hs]
theorem open_snoc {so : List Nat} (hO : Open S so) {i : Nat} (hi : ∀ k,k < S.n → k ∉ so → k ≠ i → S.before k i = false) : Open S (so ++ [i]) := by
  intro j hj k hk hn
  have hk1 : k ∉ so := fun h => hn (by simp [h])
  have hk2 : k ≠ i := fun h => hn (by simp [h])
  rcases List.mem_append.1 hj with hj | hj
  · exact hO j hj k hk hk1
  · obtain rfl : j = i := by simpa using hj
    exact hi k hk hk1 hk2
theorem srch_sound : ∀ (f D : Nat) (p : P) (so : List Nat),srch S f D p = some so → LegalFrom S D p so
  | 0,D,p,so,h => by cases h
  | f + 1,D,p,so,h => by
    simp only [srch] at h
    split at h
    · rename_i ha
      cases h
      exact ha
    · obtain ⟨i,hi,h⟩ := List.exists_of_findSome?_eq_some h
      split at h
      · rename_i hcnd
        obtain ⟨q,hq,h⟩ := Option.bind_eq_some_iff.1 h
        obtain ⟨r,hr,rfl⟩ := Option.map_eq_some_iff.1 h
        exact ⟨hcnd,List.mem_range.1 hi,q,hq,srch_sound f _ q r hr⟩
      · cases h
theorem fits_nil (p : P) : Fits S p [] := ⟨List.nodup_nil,fun _ h => by simp at h,List.Pairwise.nil,rfl⟩
theorem open_nil : Open S [] := fun _ h => by simp at h
theorem nodup_length : ∀ (n : Nat) (l : List Nat),l.Nodup → (∀ i ∈ l,i < n) → l.length ≤ n
  | 0,l,_,h => by
    cases l with
    | nil => simp
    | cons a l => exact absurd (h a (by simp)) (by omega)
  | n + 1,l,hn,h => by
    have h1 : (l.filter (fun i => decide (i ≠ n))).length ≤ n := nodup_length n _ (hn.filter _) (fun i hi => by
      have := List.mem_filter.1 hi
      have h3 := h i this.1
      have h4 : i ≠ n := by simpa using this.2
      omega)
    have h2 : l.length ≤ (l.filter (fun i => decide (i ≠ n))).length + 1 := by
      clear h1 h
      induction l with
      | nil => simp
      | cons a l ih =>
        obtain ⟨ha,hl⟩ := List.nodup_cons.1 hn
        by_cases e : a = n
        · subst e
          have : l.filter (fun i => decide (i ≠ a)) = l := List.filter_eq_self.2 (fun b hb => by
            have : b ≠ a := fun e => ha (e ▸ hb)
            simpa using this)
          rw [List.filter_cons_of_neg (by simp),this]
          simp
        · rw [List.filter_cons_of_pos (by simpa using e)]
          simp only [List.length_cons]
          have := ih hl
          omega
    omega
theorem legal_length {p : P} {so : List Nat} (h : Fits S p so) : so.length ≤ S.n := nodup_length S.n so h.1 (fun i hi => (h.2.1 i hi).1)
def first (fits whole : List Nat → Bool) (n : Nat) : Nat → List Nat → Option (List Nat)
  | 0,_ => none
  | f + 1,so => if fits so = true then if whole so = true then some so else (List.range n).findSome? fun i => first fits whole n f (so ++ [i]) else none
variable {fits whole : List Nat → Bool}
theorem first_sound (p0 : P) (hfit : ∀ so,fits so = true ↔ Fits S p0 so) (hwhole : ∀ so,whole so = true ↔ Whole S so) : ∀ (f : Nat) (so out : List Nat),first fits whole S.n f so = some out → Legal S p0 out ∧ ∃ t,out = so ++ t
  | 0,_,_,h => by cases h
  | f + 1,so,out,h => by
    simp only [first] at h
    split at h
    · split at h
      · cases h
        exact ⟨⟨(hfit _).1 (by assumption),(hwhole _).1 (by assumption)⟩,[],by simp⟩
      · obtain ⟨i,_,h⟩ := List.exists_of_findSome?_eq_some h
        obtain ⟨h1,t,ht⟩ := first_sound p0 hfit hwhole f _ _ h
        exact ⟨h1,i :: t,by simpa using ht⟩
    · cases h
theorem findSome_congr {α β : Type} {l : List α} {f g : α → Option β} (h : ∀ a ∈ l,f a = g a) : l.findSome? f = l.findSome? g := by
  induction l with
  | nil => rfl
  | cons a l ih =>
    rw [List.findSome?_cons,List.findSome?_cons,h a (by simp),ih (fun b hb => h b (by simp [hb]))]
theorem findSome_map {α β γ : Type} (l : List α) (f : α → Option β) (g : β → γ) : (l.findSome? f).map g = l.findSome? fun a => (f a).map g := by
  induction l with
  | nil => rfl
  | cons a l ih =>
    rw [List.findSome?_cons,List.findSome?_cons]
    cases f a with
    | none => simpa using ih
    | some b => rfl
/-- Both searches find the same order. -/
theorem first_eq (p0 : P) (hfit : ∀ so,fits so = true ↔ Fits S p0 so) (hwhole : ∀ so,whole so = true ↔ Whole S so) : ∀ (f : Nat) (so : List Nat) (p : P),Fits S p0 so → Open S so → chain S p0 so = some p → first fits whole S.n f so = (srch S f (mask so) p).map (so ++ ·)
  | 0,_,_,_,_,_ => rfl
  | f + 1,so,p,hF,hO,hc => by
    simp only [first,srch]
    rw [if_pos ((hfit so).2 hF)]
    by_cases hW : Whole S so
    · rw [if_pos ((hwhole so).2 hW),if_pos ((allIn_mask S so).2 hW)]
      simp
    · rw [if_neg (fun h => hW ((hwhole so).1 h)),if_neg (fun h => hW ((allIn_mask S so).1 h)),findSome_map]
      refine findSome_congr fun i hi => ?_
      have hin := List.mem_range.1 hi
      by_cases hFi : Fits S p0 (so ++ [i])
      · obtain ⟨g1,_,g2,g4⟩ := (fits_snoc S hF hO hc i).1 hFi
        obtain ⟨q,hq⟩ := Option.isSome_iff_exists.1 g4
        by_cases g3 : ∀ k,k < S.n → k ∉ so → k ≠ i → S.before k i = false
        · rw [if_pos ((cand_mask S so i).2 ⟨g1,g2,g3⟩),hq,Option.bind_some,first_eq p0 hfit hwhole f (so ++ [i]) q hFi (open_snoc S hO g3) (chain_snoc S hc hq),mask_snoc]
          rw [Option.map_map]
          congr 1
          funext t
          simp
        · rw [if_neg (fun h => g3 ((cand_mask S so i).1 h).2.2)]
          simp only [Option.map_none]
          cases hx : first fits whole S.n f (so ++ [i]) with
          | none => rfl
          | some out =>
            exfalso
            obtain ⟨hL,t,ht⟩ := first_sound S p0 hfit hwhole f _ _ hx
            apply g3
            intro k hk hn hne
            cases hb : S.before k i with
            | false => rfl
            | true =>
              have hin := hL.2 k hk (S.bm _ _ hb)
              rw [ht] at hin
              have hin2 : k ∈ t := by
                rcases List.mem_append.1 hin with h | h
                · rcases List.mem_append.1 h with h | h
                  · exact absurd h hn
                  · exact absurd (by simpa using h) hne
                · exact h
              have h3 := hL.1.2.2.1
              rw [ht] at h3
              have := (List.pairwise_append.1 h3).2.2 i (by simp) k hin2
              rw [hb] at this
              cases this
      · have hz : first fits whole S.n f (so ++ [i]) = none := by
          cases f with
          | zero => rfl
          | succ f => simp only [first];rw [if_neg (fun h => hFi ((hfit _).1 h))]
        rw [hz]
        by_cases hcd : cand S (mask so) i = true
        · rw [if_pos hcd]
          obtain ⟨g1,g2,_⟩ := (cand_mask S so i).1 hcd
          cases hq : S.step p i with
          | none => rfl
          | some q => exact absurd ((fits_snoc S hF hO hc i).2 ⟨g1,hin,g2,by rw [hq];rfl⟩) hFi
        · rw [if_neg hcd]
          rfl
theorem first_nil (p0 : P) (hfit : ∀ so,fits so = true ↔ Fits S p0 so) (hwhole : ∀ so,whole so = true ↔ Whole S so) (f : Nat) : first fits whole S.n f [] = srch S f 0 p0 := by
  have := first_eq S p0 hfit hwhole f [] p0 (fits_nil S p0) (open_nil S) rfl
  rw [this]
  simp [mask]

variable {K : Type} (key : P → K) (st : P → Nat → Option (Option P))
def go (rec : Nat → P → List (Nat × K) → List Nat → Option (Bool × List (Nat × K) × List Nat)) (D : Nat) (p : P) : List Nat → List (Nat × K) → List Nat → Option (Bool × List (Nat × K) × List Nat)
  | [],seen,so => some (false,seen,so)
  | i :: r,seen,so =>
    if cand S D i = true then (st p i).bind fun
      | none => go rec D p r seen so
      | some q => (rec (D ||| 1 <<< i) q seen (so ++ [i])).bind fun x => if x.1 = true then some x else go rec D p r x.2.1 so
    else go rec D p r seen so
theorem go_false {rec : Nat → P → List (Nat × K) → List Nat → Option (Bool × List (Nat × K) × List Nat)} {D : Nat} {p : P} : ∀ (is : List Nat) (seen : List (Nat × K)) (so : List Nat) (x : Bool × List (Nat × K) × List Nat),go S st rec D p is seen so = some x → x.1 = false → x.2.2 = so
  | [],seen,so,x,h,_ => by
    simp only [go] at h
    cases h
    rfl
  | i :: r,seen,so,x,h,hx => by
    simp only [go] at h
    split at h
    · obtain ⟨q,hq,h⟩ := Option.bind_eq_some_iff.1 h
      cases q with
      | none => exact go_false r _ _ x h hx
      | some q =>
        dsimp only at h
        obtain ⟨y,hy,h⟩ := Option.bind_eq_some_iff.1 h
        split at h
        · rename_i hy1
          cases h
          rw [hx] at hy1
          cases hy1
        · exact go_false r _ _ x h hx
    · exact go_false r _ _ x h hx
variable [DecidableEq K]
def find : Nat → Nat → P → List (Nat × K) → List Nat → Option (Bool × List (Nat × K) × List Nat)
  | 0,_,_,_,_ => none
  | f + 1,D,p,seen,so => if allIn S D = true then some (true,seen,so) else if (D,key p) ∈ seen then some (false,seen,so) else go S st (find f) D p (List.range S.n) ((D,key p) :: seen) so
theorem find_false (f D : Nat) (p : P) (seen : List (Nat × K)) (so : List Nat) (x : Bool × List (Nat × K) × List Nat) (h : find S key st f D p seen so = some x) (hx : x.1 = false) : x.2.2 = so := by
  cases f with
  | zero => cases h
  | succ f =>
    simp only [find] at h
    split at h
    · cases h;cases hx
    · split at h
      · cases h;rfl
      · exact go_false S st _ _ _ x h hx
def None (D : Nat) (p : P) : Prop := ∀ so,¬ LegalFrom S D p so
def rank (D : Nat) : Nat := ((List.range S.n).filter fun i => !D.testBit i).length
theorem testBit_or_one (D i k : Nat) : (D ||| 1 <<< i).testBit k = (D.testBit k || decide (k = i)) := by
  rw [Nat.testBit_or]
  by_cases h : k = i
  · subst h;simp [Nat.one_shiftLeft]
  · have h2 : ¬ i = k := fun e => h e.symm
    simp [Nat.one_shiftLeft,Nat.testBit_two_pow,h2,h]
theorem lt_or_one {D i : Nat} (h : D.testBit i = false) : D < D ||| 1 <<< i := by
  refine Nat.lt_of_le_of_ne Nat.left_le_or fun e => ?_
  have h2 := testBit_or_one D i i
  rw [← e,h] at h2
  simp at h2
theorem length_filter_lt {α : Type} (l : List α) (f g : α → Bool) (h : ∀ a ∈ l,g a = true → f a = true) (a : α) (ha : a ∈ l) (hf : f a = true) (hg : g a = false) : (l.filter g).length < (l.filter f).length := by
  induction l with
  | nil => simp at ha
  | cons b l ih =>
    have h1 : (l.filter g).length ≤ (l.filter f).length := by
      clear ih ha
      induction l with
      | nil => simp
      | cons c l ih2 =>
        have := ih2 (fun x hx => h x (by rcases List.mem_cons.1 hx with rfl | hx <;> simp_all))
        cases hgc : g c with
        | true =>
          rw [List.filter_cons_of_pos hgc,List.filter_cons_of_pos (h c (by simp) hgc)]
          simpa using this
        | false =>
          rw [List.filter_cons_of_neg (by simp [hgc])]
          refine Nat.le_trans this ?_
          cases hfc : f c with
          | true => rw [List.filter_cons_of_pos hfc];simp
          | false => rw [List.filter_cons_of_neg (by simp [hfc])];exact Nat.le_refl _
    rcases List.mem_cons.1 ha with rfl | ha
    · rw [List.filter_cons_of_neg (by simp [hg]),List.filter_cons_of_pos hf]
      simp only [List.length_cons]
      omega
    · have h2 := ih (fun x hx => h x (List.mem_cons_of_mem _ hx)) ha
      cases hgc : g b with
      | true =>
        rw [List.filter_cons_of_pos hgc,List.filter_cons_of_pos (h b (by simp) hgc)]
        simpa using h2
      | false =>
        rw [List.filter_cons_of_neg (by simp [hgc])]
        refine Nat.lt_of_lt_of_le h2 ?_
        cases hfc : f b with
        | true => rw [List.filter_cons_of_pos hfc];simp
        | false => rw [List.filter_cons_of_neg (by simp [hfc])];exact Nat.le_refl _
theorem rank_lt {D i : Nat} (hi : i < S.n) (h : D.testBit i = false) : rank S (D ||| 1 <<< i) < rank S D := by
  refine length_filter_lt _ _ _ (fun k _ hk => ?_) i (List.mem_range.2 hi) (by simp [h]) (by rw [testBit_or_one];simp)
  rw [testBit_or_one] at hk
  simp only [Bool.not_or,Bool.and_eq_true] at hk
  exact hk.1
theorem rank_le (D : Nat) : rank S D ≤ S.n := by
  unfold rank
  exact Nat.le_trans (List.length_filter_le _ _) (by simp)
/-- What is remembered leads nowhere. -/
def Lost (Good : P → Prop) (x : Nat × K) : Prop := ∀ p,Good p → key p = x.2 → None S x.1 p
/-- What a search gives back: what is found first; or nothing, and there is nothing, and what is remembered leads nowhere. -/
def Res (Good : P → Prop) (f D : Nat) (p : P) (seen : List (Nat × K)) (so : List Nat) (r : Option (Bool × List (Nat × K) × List Nat)) : Prop :=
  ∃ b seen' so',r = some (b,seen',so') ∧ (b = true → ∃ t,srch S f D p = some t ∧ so' = so ++ t) ∧ (b = false → None S D p ∧ so' = so ∧ ∀ x ∈ seen',x ∈ seen ∨ Lost S key Good x)
theorem srch_none {f D : Nat} {p : P} (h : None S D p) : srch S f D p = none := by
  cases hs : srch S f D p with
  | none => rfl
  | some t => exact absurd (srch_sound S f D p t hs) (h t)
theorem find_spec (Inv : Nat → P → Prop) (Good : P → Prop) (hgood : ∀ f p,Inv f p → Good p) (hinj : ∀ p q,Good p → Good q → key p = key q → p = q) (hst : ∀ f p,Inv (f + 1) p → ∀ i,i < S.n → st p i = some (S.step p i) ∧ ∀ q,S.step p i = some q → Inv f q) :
    ∀ (f D : Nat) (p : P) (seen : List (Nat × K)) (so : List Nat),Inv f p → rank S D < f → (∀ x ∈ seen,x.1 < D ∨ Lost S key Good x) → Res S key Good f D p seen so (find S key st f D p seen so)
  | 0,_,_,_,_,_,h,_ => by omega
  | f + 1,D,p,seen,so,hI,hr,hs => by
    simp only [find]
    split
    · rename_i ha
      refine ⟨true,seen,so,rfl,fun _ => ⟨[],?_,by simp⟩,fun h => by cases h⟩
      simp only [srch]
      rw [if_pos ha]
    · rename_i hna
      split
      · rename_i hm
        refine ⟨false,seen,so,rfl,fun h => by (cases h),fun _ => ⟨?_,rfl,fun x hx => .inl hx⟩⟩
        rcases hs _ hm with h | h
        · exact absurd h (Nat.lt_irrefl _)
        · exact h p (hgood _ _ hI) rfl
      · have loop : ∀ (is : List Nat) (sn : List (Nat × K)),(∀ i ∈ is,i < S.n) → (∀ x ∈ sn,x ∈ (D,key p) :: seen ∨ Lost S key Good x) →
            ∃ b sn' so',go S st (find S key st f) D p is sn so = some (b,sn',so') ∧ (b = true → ∃ t,(is.findSome? fun i => if cand S D i = true then (S.step p i).bind fun q => (srch S f (D ||| 1 <<< i) q).map (i :: ·) else none) = some t ∧ so' = so ++ t) ∧
              (b = false → (∀ i ∈ is,cand S D i = true → ∀ q,S.step p i = some q → None S (D ||| 1 <<< i) q) ∧ so' = so ∧ ∀ x ∈ sn',x ∈ (D,key p) :: seen ∨ Lost S key Good x) := by
          intro is
          induction is with
          | nil =>
            intro sn _ h
            exact ⟨false,sn,so,rfl,fun h => by (cases h),fun _ => ⟨fun i hi => by simp at hi,rfl,h⟩⟩
          | cons i r ih =>
            intro sn hin hsn
            have hi := hin i (by simp)
            have hin' : ∀ j ∈ r,j < S.n := fun j hj => hin j (List.mem_cons_of_mem _ hj)
            simp only [go]
            rw [List.findSome?_cons]
            by_cases hcd : cand S D i = true
            · rw [if_pos hcd,if_pos hcd,(hst f p hI i hi).1,Option.bind_some]
              have hbit : D.testBit i = false := by
                simp only [cand,Bool.and_eq_true,Bool.not_eq_true'] at hcd
                exact hcd.1.1
              cases hq : S.step p i with
              | none =>
                obtain ⟨b,sn',so',h1,h2,h3⟩ := ih sn hin' hsn
                refine ⟨b,sn',so',h1,fun hb => ?_,fun hb => ?_⟩
                · exact h2 hb
                · obtain ⟨g1,g2,g3⟩ := h3 hb
                  refine ⟨fun j hj hcj q' hq' => ?_,g2,g3⟩
                  rcases List.mem_cons.1 hj with rfl | hj
                  · rw [hq] at hq';cases hq'
                  · exact g1 j hj hcj q' hq'
              | some q =>
                dsimp only
                have hlt := lt_or_one hbit
                obtain ⟨b,sn1,so1,h1,h2,h3⟩ := find_spec Inv Good hgood hinj hst f (D ||| 1 <<< i) q sn (so ++ [i]) ((hst f p hI i hi).2 q hq) (by have := rank_lt S hi hbit;omega) (fun x hx => by
                  rcases hsn x hx with h | h
                  · rcases List.mem_cons.1 h with rfl | h
                    · exact .inl hlt
                    · rcases hs x h with h | h
                      · exact .inl (Nat.lt_trans h hlt)
                      · exact .inr h
                  · exact .inr h)
                rw [h1,Option.bind_some,Option.bind_some]
                cases b with
                | true =>
                  obtain ⟨t,ht,rfl⟩ := h2 rfl
                  rw [if_pos rfl,ht]
                  exact ⟨true,sn1,_,rfl,fun _ => ⟨i :: t,rfl,by simp⟩,fun h => by cases h⟩
                | false =>
                  obtain ⟨g1,rfl,g3⟩ := h3 rfl
                  rw [if_neg (by simp),srch_none S g1]
                  obtain ⟨b,sn',so',k1,k2,k3⟩ := ih sn1 hin' (fun x hx => by
                    rcases g3 x hx with h | h
                    · exact hsn x h
                    · exact .inr h)
                  refine ⟨b,sn',so',k1,fun hb => ?_,fun hb => ?_⟩
                  · exact k2 hb
                  · obtain ⟨e1,e2,e3⟩ := k3 hb
                    refine ⟨fun j hj hcj q' hq' => ?_,e2,e3⟩
                    rcases List.mem_cons.1 hj with rfl | hj
                    · rw [hq] at hq';cases hq';exact g1
                    · exact e1 j hj hcj q' hq'
            · rw [if_neg hcd,if_neg hcd]
              obtain ⟨b,sn',so',h1,h2,h3⟩ := ih sn hin' hsn
              refine ⟨b,sn',so',h1,fun hb => ?_,fun hb => ?_⟩
              · exact h2 hb
              · obtain ⟨g1,g2,g3⟩ := h3 hb
                refine ⟨fun j hj hcj q' hq' => ?_,g2,g3⟩
                rcases List.mem_cons.1 hj with rfl | hj
                · exact absurd hcj hcd
                · exact g1 j hj hcj q' hq'
        obtain ⟨b,sn',so',h1,h2,h3⟩ := loop (List.range S.n) ((D,key p) :: seen) (fun i hi => List.mem_range.1 hi) (fun x hx => .inl hx)
        refine ⟨b,sn',so',h1,fun hb => ?_,fun hb => ?_⟩
        · obtain ⟨t,ht,e⟩ := h2 hb
          refine ⟨t,?_,e⟩
          simp only [srch]
          rw [if_neg hna]
          exact ht
        · obtain ⟨g1,g2,g3⟩ := h3 hb
          have hN : None S D p := by
            intro t hL
            cases t with
            | nil => exact hna hL
            | cons i r =>
              obtain ⟨c1,c2,q,c3,c4⟩ := hL
              exact g1 i (List.mem_range.2 c2) c1 q c3 r c4
          refine ⟨hN,g2,fun x hx => ?_⟩
          rcases g3 x hx with h | h
          · rcases List.mem_cons.1 h with rfl | h
            · exact .inr (fun q hq he => hinj _ _ (hgood _ _ hI) hq he.symm ▸ hN)
            · exact .inl h
          · exact .inr h
/-- From the beginning: the first legal order, or there is none. -/
theorem find_top (Inv : Nat → P → Prop) (Good : P → Prop) (hgood : ∀ f p,Inv f p → Good p) (hinj : ∀ p q,Good p → Good q → key p = key q → p = q) (hst : ∀ f p,Inv (f + 1) p → ∀ i,i < S.n → st p i = some (S.step p i) ∧ ∀ q,S.step p i = some q → Inv f q) (f : Nat) (p : P) (hI : Inv f p) (hf : S.n < f) :
    ∃ b seen' so',find S key st f 0 p [] [] = some (b,seen',so') ∧ b = (srch S f 0 p).isSome ∧ (b = true → srch S f 0 p = some so') ∧ (b = false → so' = []) := by
  obtain ⟨b,seen',so',h1,h2,h3⟩ := find_spec S key st Inv Good hgood hinj hst f 0 p [] [] hI (Nat.lt_of_le_of_lt (rank_le S 0) hf) (fun x hx => by simp at hx)
  refine ⟨b,seen',so',h1,?_,fun hb => ?_,fun hb => (h3 hb).2.1⟩
  · cases b with
    | true => obtain ⟨t,ht,_⟩ := h2 rfl;rw [ht];rfl
    | false => rw [srch_none S (h3 rfl).1];rfl
  · obtain ⟨t,ht,e⟩ := h2 hb
    rw [ht,e]
    simp
end
end Go.Proofs.Ytkoiffkonjpoiaa.Srch
namespace Go.Proofs.Ytkoiffkonjpoiaa.Srch
section
set_option linter.unusedSimpArgs false
/-- An event: whether it must be in an order, whether it may be; when it began, when it ended; what becomes of the map. -/
structure Ev (P : Type) where
  must : Bool
  may : Bool
  beg : Int
  fin : Int
  step : P → Option P
variable {P : Type}
def mustAt (h : List (Ev P)) (i : Nat) : Bool := match h[i]? with | some e => e.must | none => false
def mayAt (h : List (Ev P)) (i : Nat) : Bool := match h[i]? with | some e => e.may | none => false
def beforeAt (h : List (Ev P)) (i j : Nat) : Bool := match h[i]?,h[j]? with | some e,some f => e.must && decide (e.fin < f.beg) | _,_ => false
def stepAt (h : List (Ev P)) (p : P) (i : Nat) : Option P := match h[i]? with | some e => e.step p | none => none
def sto (h : List (Ev P)) : St P where
  n := h.length
  must := mustAt h
  may := mayAt h
  before := beforeAt h
  step := stepAt h
  bm i j hb := by
    unfold beforeAt at hb
    unfold mustAt
    split at hb
    · rename_i e f h1 h2
      rw [h1]
      simp only [Bool.and_eq_true] at hb
      exact hb.1
    · cases hb
def sh (m i : Nat) : Nat := if i < m then i else i + 1
variable {h : List (Ev P)} {m : Nat} {e : Ev P}
end
end Go.Proofs.Ytkoiffkonjpoiaa.Srch
namespace Go.Proofs.Ytkoiffkonjpoiaa.Q
open Go.RowKit Go.Proofs.YtkoiffkonjpoiaaW.PrintWords Go.Proofs.YtkoiffkonjpoiaaW.PrintLast Go.Proofs.YtkoiffkonjpoiaaW.PrintMore Go.Proofs.YtkoiffkonjpoiaaX
attribute [local go_sem] max2_int min2_int max_two min_two max_three min_three max_four min_four
set_option linter.unusedVariables false
set_option linter.unusedSimpArgs false
theorem wpList_seen_look (w : World) {ops : Array Oper} {rest : List Oper} {o : Oper} {a : Act} {Q : Exit → Act → World → Prop} (hg : o.guard = none) (m x : Operand) (hop : o.op = Op.lookup 152 m x false) (mb : Nat) (seen : List (Nat × List UInt8)) (hm : a.eval m = .map (some mb)) (hs : SeenAt w mb seen) (k : Nat × List UInt8) (hx : a.eval x = keyV k) (hk : okKey k)
    (hK : wpList Try.prog ops Q rest (a.put o.dst (.int .i64 (if k ∈ seen then 1 else 0))) w) : wpList Try.prog ops Q (o :: rest) a w := by
  refine wpList_plain hg fun K' hK' => ?_
  have hrun := run_seen_look hs hk
  unfold Oper.wp
  simp [execOp,hop,hm,hx,hrun,Result.andThen]
  exact hK' _ _ hK
theorem wpList_seen_put (w : World) {ops : Array Oper} {rest : List Oper} {o : Oper} {a : Act} {Q : Exit → Act → World → Prop} (hg : o.guard = none) (m x v : Operand) (hop : o.op = Op.mapUpdate 152 m x v) (mb : Nat) (seen : List (Nat × List UInt8)) (hm : a.eval m = .map (some mb)) (hs : SeenAt w mb seen) (k : Nat × List UInt8) (hx : a.eval x = keyV k) (hv : a.eval v = .int .i64 1) (hk : okKey k) (hn : k ∉ seen)
    (hK : ∀ W,SeenAt W mb (k :: seen) → w.grownBy W (some mb) → wpList Try.prog ops Q rest (a.put o.dst undef) W) : wpList Try.prog ops Q (o :: rest) a w := by
  refine wpList_plain hg fun K' hK' => ?_
  obtain ⟨W,hrun,h1,h2⟩ := run_seen_put hs hk hn
  unfold Oper.wp
  simp [execOp,hop,hm,hx,hv,hrun,Result.andThen]
  exact hK' _ _ (hK W h1 h2)
/-- What becomes of the pairs by an event; nothing, if it answers otherwise. -/
def stepE (k : Nat) (p : List S40) (e : S128) : Option (Option (List S40)) := (model_Apply.f k p e.f1.f0 e.f1.f1 e.f1.f2 e.f1.f3).bind fun a => if a.1.length < 8796093022208 then (if 0 ≤ e.f3 then (model_Same.f k a.2.1 a.2.2.1 a.2.2.2.1 a.2.2.2.2.1 a.2.2.2.2.2.1 a.2.2.2.2.2.2 e.f4.f0 e.f4.f1 e.f4.f2 e.f4.f3 e.f4.f4 e.f4.f5).bind fun s => some (if s = true then some a.1 else none) else some (some a.1)) else none
def stepF (k : Nat) (l : List S128) (p : List S40) (i : Nat) : Option (Option (List S40)) := match l[i]? with | some e => stepE k p e | none => none
def evOf (k : Nat) (e : S128) : Srch.Ev (List S40) := ⟨mustE e,!noneE e,e.f2,e.f3,fun p => (stepE k p e).join⟩
abbrev stOf (k : Nat) (l : List S128) : Srch.St (List S40) := Srch.sto (l.map (evOf k))
/-- The numbers of those that must be in an order. -/
def musts (l : List S128) : List Nat := (List.range l.length).filter fun i => match l[i]? with | some e => mustE e | none => false
def allM (l : List S128) : Nat := Srch.mask (musts l)
def toI (so : List Nat) : List Int := so.map Int.ofNat
theorem toI_snoc (so : List Nat) (i : Nat) : toI (so ++ [i]) = toI so ++ [(i : Int)] := by simp [toI]
abbrev find.f (k : Nat) (l : List S128) := Srch.find (stOf k l) txtU (stepF k l)
theorem Try_mixed : Try.prog.follows .mixedOrders = true := by kernel_rfl
theorem below_drawn (w : World) : Below w.heap.size w { w with drawn := w.drawn + 1 } := ⟨rfl,rfl,rfl,Nat.le_refl _,fun _ _ => rfl⟩
theorem drawn_all {id : Nat} {Q : Exit → Act → World → Prop} {a : Act} {w : World} {l : List Oper} (hB : Region.lexB .any l.toArray = true)
    (h : ∀ W,W.heap = w.heap → Below w.heap.size w W → wpStill Try.prog l.toArray W (fun a' => Q .normal a' W) l a) : (Code.region id l.toArray true).wp Try.prog Q a w :=
  wp_region_still_lit Try_mixed hB (h _ rfl (below_drawn w))
theorem drawn_tail {id : Nat} {Q : Exit → Act → World → Prop} {a : Act} {w : World} {l : List Oper} (n : Nat) (hB : Region.lexTailB .any l.toArray n = true)
    (h : ∀ W,W.heap = w.heap → Below w.heap.size w W → wpStill Try.prog l.toArray W (fun a' => wpList Try.prog l.toArray Q (l.drop n) a' W) (l.take n) a) : (Code.region id l.toArray true).wp Try.prog Q a w :=
  wp_region_still_tail n Try_mixed hB (h _ rfl (below_drawn w))
theorem bits_u64 (a b : Nat) (ha : a < 18446744073709551616) (hb : b < 18446744073709551616) : bits .and .u64 (a : Int) (b : Int) = ((a &&& b : Nat) : Int) ∧ bits .or .u64 (a : Int) (b : Int) = ((a ||| b : Nat) : Int) :=
  bits_nat .u64 64 (by decide) (fun n h0 h1 => by simp [IntKind.wrap,IntKind.bits,IntKind.signed];omega) a b ha hb
theorem mask_lt (n : Nat) : ∀ so : List Nat,(∀ i ∈ so,i < n) → Srch.mask so < 2 ^ n := by
  intro so h
  refine Nat.lt_pow_two_of_testBit _ (fun i hi => ?_)
  rw [Srch.testBit_mask]
  exact decide_eq_false (fun hm => by have := h i hm;omega)
theorem mem_musts (l : List S128) (i : Nat) : i ∈ musts l ↔ ∃ e,l[i]? = some e ∧ mustE e = true := by
  unfold musts
  rw [List.mem_filter,List.mem_range]
  constructor
  · rintro ⟨h1,h2⟩
    rw [List.getElem?_eq_getElem h1] at h2 ⊢
    exact ⟨_,rfl,h2⟩
  · rintro ⟨e,h1,h2⟩
    exact ⟨(List.getElem?_eq_some_iff.1 h1).1,by rw [h1];exact h2⟩
theorem allM_lt (l : List S128) (hn : l.length ≤ 62) : allM l < 18446744073709551616 := by
  have h1 := mask_lt l.length (musts l) (fun i hi => by obtain ⟨e,h,_⟩ := (mem_musts l i).1 hi;exact (List.getElem?_eq_some_iff.1 h).1)
  exact Nat.lt_of_lt_of_le h1 (Nat.le_trans (Nat.pow_le_pow_right (by decide) hn) (by decide))
theorem mustAt_evs (k : Nat) (l : List S128) (i : Nat) : (stOf k l).must i = (match l[i]? with | some e => mustE e | none => false) := by
  show Srch.mustAt _ i = _
  unfold Srch.mustAt
  rw [List.getElem?_map]
  cases l[i]? <;> rfl
theorem allIn_bits (k : Nat) (l : List S128) (D : Nat) (hD : D < 18446744073709551616) (hn : l.length ≤ 62) : (bits .and .u64 (D : Int) (allM l : Int) == (allM l : Int)) = Srch.allIn (stOf k l) D := by
  rw [(bits_u64 D (allM l) hD (allM_lt l hn)).1]
  have h1 : Srch.allIn (stOf k l) D = true ↔ ∀ i ∈ musts l,D.testBit i = true := by
    simp only [Srch.allIn,List.all_eq_true,List.mem_range,Bool.or_eq_true,Bool.not_eq_true',mustAt_evs]
    constructor
    · intro h i hi
      obtain ⟨e,he,hm⟩ := (mem_musts l i).1 hi
      have hlt : i < (stOf k l).n := by show i < (l.map (evOf k)).length;rw [List.length_map];exact (List.getElem?_eq_some_iff.1 he).1
      rcases h i hlt with h | h
      · rw [he] at h;dsimp only at h;rw [hm] at h;cases h
      · exact h
    · intro h i hi
      cases hx : l[i]? with
      | none => exact .inl rfl
      | some e =>
        cases hm : mustE e with
        | false => exact .inl hm
        | true => exact .inr (h i ((mem_musts l i).2 ⟨e,hx,hm⟩))
  have h2 : (D &&& allM l = allM l) ↔ ∀ i ∈ musts l,D.testBit i = true := by
    constructor
    · intro h i hi
      have := congrArg (fun x => x.testBit i) h
      simp only [Nat.testBit_and,allM,Srch.testBit_mask,decide_eq_true hi,Bool.and_true] at this
      exact this
    · intro h
      refine Nat.eq_of_testBit_eq fun i => ?_
      rw [Nat.testBit_and]
      cases hx : (allM l).testBit i with
      | false => simp
      | true =>
        have : i ∈ musts l := by
          unfold allM at hx
          rw [Srch.testBit_mask] at hx
          exact of_decide_eq_true hx
        rw [h i this]
        rfl
  rw [Bool.eq_iff_iff,h1,← h2,beq_iff_eq]
  omega
theorem kept_below {w W W' : World} {S : Nat → Prop} (h : Kept w W S) (hb : Below W.heap.size W W') : Kept w W' S :=
  ⟨Nat.le_trans h.1 hb.size,fun i hi hn => (hb.block i (Nat.lt_of_lt_of_le hi h.1)).trans (h.2 i hi hn)⟩
theorem seen_lt {w : World} {mb : Nat} {seen : List (Nat × List UInt8)} (h : SeenAt w mb seen) : mb < w.heap.size := by
  obtain ⟨_,es,clock,h,_⟩ := h
  exact (Array.getElem?_eq_some_iff.1 h).1
/-- The searcher's cells. -/
def srA (A0 : Option Addr) (n c0 al mb : Nat) (v : Value) : Array Value := #[.slice A0 n c0,.int .u64 (al : Int),.map (some mb),v]
/-- What stands while a search goes on. -/
structure SF (w0 w : World) (g mb : Nat) (A0 : Option Addr) (n c0 al : Nat) (P0 okp : Nat → Prop) (B : Nat) (v : Value) (p : List S40) (seen : List (Nat × List UInt8)) (vo : Value) (so : List Nat) (W : World) : Prop where
  b : Below w0.heap.size w0 W
  k : Kept w W (fun b => P0 b ∨ b = g ∨ b = mb)
  x : W.heap[g]? = some (.cells (srA A0 n c0 al mb vo) 155 (0,0))
  s : SeenAt W mb seen
  o : Kd.R (Kd.int .i64) 3 W w0.heap.size (fun b => P0 b ∨ w.heap.size ≤ b) vo (toI so)
  v : Kd.V k40 40 W B okp v p
theorem SF.below {w0 w : World} {g mb : Nat} {A0 : Option Addr} {n c0 al : Nat} {P0 okp : Nat → Prop} {B : Nat} {v : Value} {p : List S40} {seen : List (Nat × List UInt8)} {vo : Value} {so : List Nat} {W W' : World}
    (h : SF w0 w g mb A0 n c0 al P0 okp B v p seen vo so W) (hb : Below W.heap.size W W') : SF w0 w g mb A0 n c0 al P0 okp B v p seen vo so W' :=
  ⟨below_step h.b hb,kept_below h.k hb,blk_below h.x hb,h.s.keep (hb.block mb (seen_lt h.s)),Kd.R_below h.o hb,Kd.V_below h.v hb⟩
theorem SF.cells {w0 w : World} {g mb : Nat} {A0 : Option Addr} {n c0 al : Nat} {P0 okp : Nat → Prop} {B : Nat} {v : Value} {p : List S40} {seen : List (Nat × List UInt8)} {vo : Value} {so : List Nat} {W : World}
    (h : SF w0 w g mb A0 n c0 al P0 okp B v p seen vo so W) : W.cell? ⟨g,0,none⟩ = some (.slice A0 n c0) ∧ W.cell? ⟨g,1,none⟩ = some (.int .u64 (al : Int)) ∧ W.cell? ⟨g,2,none⟩ = some (.map (some mb)) ∧ W.cell? ⟨g,3,none⟩ = some vo ∧ W.frozen? ⟨g,3,none⟩ = false :=
  ⟨(blk_cell h.x 0).trans rfl,(blk_cell h.x 1).trans rfl,(blk_cell h.x 2).trans rfl,(blk_cell h.x 3).trans rfl,blk_frozen h.x 3⟩
section
variable {w0 w : World} {g mb : Nat} {A0 : Option Addr} {n c0 al : Nat} {P0 okp : Nat → Prop} {B : Nat} {v : Value} {p : List S40} {seen seen' : List (Nat × List UInt8)} {vo : Value} {so : List Nat} {W W' : World}
theorem SF.put (h : SF w0 w g mb A0 n c0 al P0 okp B v p seen vo so W) (hs : SeenAt W' mb seen') (hg : W.grownBy W' (some mb)) (hne : g ≠ mb) (hm0 : w0.heap.size ≤ mb) (hPm : ¬ P0 mb) (hmw : mb < w.heap.size) (hw0 : w0.heap.size ≤ w.heap.size) (hok : ∀ b,okp b → ¬ P0 b ∧ b ≠ g ∧ b ≠ mb) :
    SF w0 w g mb A0 n c0 al P0 okp B v p seen' vo so W' := by
  have hsz : w.heap.size ≤ W.heap.size := h.k.1
  have hgl : g < W.heap.size := (Array.getElem?_eq_some_iff.1 h.x).1
  have hkep : Kept W W' (fun b => b = mb) := ⟨hg.size,fun i hi hn => hg.block i hi (fun e => hn (Option.some.inj e))⟩
  refine ⟨h.b.grown hg (Nat.le_trans hw0 hsz) (fun k e => by obtain rfl := Option.some.inj e;exact hm0),⟨Nat.le_trans hsz hg.size,fun i hi hn => ?_⟩,(hg.block g hgl (fun e => hne (Option.some.inj e))).trans h.x,hs,?_,?_⟩
  · exact (hg.block i (Nat.lt_of_lt_of_le hi hsz) (fun e => hn (.inr (.inr (Option.some.inj e))))).trans (h.k.2 i hi hn)
  · refine Kd.R_mono (Kd.R_keptB h.o hkep (fun b hb e => ?_)) (fun _ hb => hb.1)
    rcases hb with hb | hb
    · exact hPm (e ▸ hb)
    · omega
  · exact Kd.V_map h.v (fun A hf => Kd.F_step hf (fun b hb hlt => hg.block b hlt (fun e => (hok b hb).2.2 (Option.some.inj e))))
end
theorem ev_at {w0 W : World} {A : Option Addr} {l : List S128} (hr : Kd.C k128 w0 A l.length l) (hb : Below w0.heap.size w0 W) (i : Nat) (h : i < l.length) (e : S128) (he : e = rd_T128 l (i : Int)) : ∃ ad A11 c11,A = some ad ∧ W.cell? (ad.add (i * 13)) = some (.int .i64 e.f0) ∧ W.cell? ⟨(ad.add (i * 13)).block,(ad.add (i * 13)).off + 1,none⟩ = some (.int .u8 e.f1.f0) ∧ W.cell? ⟨(ad.add (i * 13)).block,(ad.add (i * 13)).off + 2,none⟩ = some (.int .i64 e.f1.f1) ∧ W.cell? ⟨(ad.add (i * 13)).block,(ad.add (i * 13)).off + 3,none⟩ = some (.int .i64 e.f1.f2) ∧ W.cell? ⟨(ad.add (i * 13)).block,(ad.add (i * 13)).off + 4,none⟩ = some (.int .i64 e.f1.f3) ∧ W.cell? ⟨(ad.add (i * 13)).block,(ad.add (i * 13)).off + 5,none⟩ = some (.int .i64 e.f2) ∧ W.cell? ⟨(ad.add (i * 13)).block,(ad.add (i * 13)).off + 6,none⟩ = some (.int .i64 e.f3) ∧ W.cell? ⟨(ad.add (i * 13)).block,(ad.add (i * 13)).off + 7,none⟩ = some (.int .i64 e.f4.f0) ∧ W.cell? ⟨(ad.add (i * 13)).block,(ad.add (i * 13)).off + 8,none⟩ = some (.bool e.f4.f1) ∧ W.cell? ⟨(ad.add (i * 13)).block,(ad.add (i * 13)).off + 9,none⟩ = some (.int .i64 e.f4.f2) ∧ W.cell? ⟨(ad.add (i * 13)).block,(ad.add (i * 13)).off + 10,none⟩ = some (.int .i64 e.f4.f3) ∧ W.cell? ⟨(ad.add (i * 13)).block,(ad.add (i * 13)).off + 11,none⟩ = some (.slice A11 e.f4.f4.length c11) ∧ W.cell? ⟨(ad.add (i * 13)).block,(ad.add (i * 13)).off + 12,none⟩ = some (.bool e.f4.f5) ∧ e.f4.f4.length ≤ c11 ∧ k40.C w0 A11 e.f4.f4.length e.f4.f4 := by
  obtain ⟨ad,A11,c11,e1,x0,x1,x2,x3,x4,x5,x6,x7,x8,x9,x10,x11,x12,l11,g11⟩ := at_T128 hr (i : Int) (by omega) (by omega)
  have t : ∀ a v,w0.cell? a = some v → W.cell? a = some v := fun a v hx => (hb.cell (World.block_lt_of_cell? w0 _ hx)).trans hx
  rw [Int.toNat_natCast] at *
  subst he
  exact ⟨ad,A11,c11,e1,t _ _ x0,t _ _ x1,t _ _ x2,t _ _ x3,t _ _ x4,t _ _ x5,t _ _ x6,t _ _ x7,t _ _ x8,t _ _ x9,t _ _ x10,t _ _ x11,t _ _ x12,l11,g11⟩
theorem bit_at (D i : Nat) (hD : D < 18446744073709551616) : bits .and .u64 ((D : Int) / 2 ^ i) 1 = if D.testBit i = true then 1 else 0 := by
  have e : ((D : Int) / 2 ^ i) = ((D / 2 ^ i : Nat) : Int) := by rw [Int.natCast_ediv,Int.natCast_pow];rfl
  have h1 : D / 2 ^ i < 18446744073709551616 := Nat.lt_of_le_of_lt (Nat.div_le_self _ _) hD
  rw [e,show (1 : Int) = ((1 : Nat) : Int) from rfl,(bits_u64 _ 1 h1 (by decide)).1,Nat.and_one_is_mod,Nat.testBit_eq_decide_div_mod_eq]
  by_cases h : D / 2 ^ i % 2 = 1
  · simp [h]
  · have : D / 2 ^ i % 2 = 0 := by omega
    simp [this]
theorem or_at (D i : Nat) (hD : D < 18446744073709551616) (hi : i < 64) : bits .or .u64 (D : Int) (IntKind.u64.wrap (2 ^ i)) = ((D ||| 1 <<< i : Nat) : Int) := by
  have hlt : 2 ^ i < 18446744073709551616 := Nat.pow_lt_pow_right (n := 64) (by decide) hi
  have e1 : ((2 : Int) ^ i) = ((2 ^ i : Nat) : Int) := by rw [Int.natCast_pow];rfl
  have e : IntKind.u64.wrap ((2 : Int) ^ i) = ((1 <<< i : Nat) : Int) := by
    rw [Nat.one_shiftLeft,e1]
    clear e1
    generalize 2 ^ i = m at *
    simp [IntKind.wrap,IntKind.bits,IntKind.signed]
    omega
  rw [e,(bits_u64 D (1 <<< i) hD (by rw [Nat.one_shiftLeft];exact hlt)).2]
/-- Whether an event doesn't stand in the way of another one. -/
theorem before_evs (k : Nat) (l : List S128) {i j : Nat} {e f : S128} (hi : l[i]? = some e) (hj : l[j]? = some f) : (stOf k l).before j i = (mustE f && decide (f.f3 < e.f2)) := by
  show Srch.beforeAt _ j i = _
  unfold Srch.beforeAt
  rw [List.getElem?_map,List.getElem?_map,hi,hj]
  rfl
theorem may_evs (k : Nat) (l : List S128) {i : Nat} {e : S128} (hi : l[i]? = some e) : (stOf k l).may i = !noneE e := by
  show Srch.mayAt _ i = _
  unfold Srch.mayAt
  rw [List.getElem?_map,hi]
  rfl
theorem cand_no1 (k : Nat) (l : List S128) {D i : Nat} (h : D.testBit i = true) : ¬ Srch.cand (stOf k l) D i = true := by simp [Srch.cand,h]
theorem cand_no2 (k : Nat) (l : List S128) {D i : Nat} {e : S128} (hi : l[i]? = some e) (h : noneE e = true) : ¬ Srch.cand (stOf k l) D i = true := by simp [Srch.cand,may_evs k l hi,h]
theorem cand_no3 (k : Nat) (l : List S128) {D i j : Nat} (hj : j < l.length) (h1 : D.testBit j = false) (h2 : j ≠ i) (h3 : (stOf k l).before j i = true) : ¬ Srch.cand (stOf k l) D i = true := by
  intro h
  simp only [Srch.cand,Bool.and_eq_true,List.all_eq_true,List.mem_range] at h
  have := h.2 j (by show j < (l.map (evOf k)).length;rw [List.length_map];exact hj)
  rw [h1,h3] at this
  simp [h2] at this
def nb (k : Nat) (l : List S128) (D i m : Nat) : Prop := D.testBit m = true ∨ m = i ∨ (stOf k l).before m i = false
theorem cand_yes (k : Nat) (l : List S128) {D i : Nat} {e : S128} (hi : l[i]? = some e) (h1 : D.testBit i = false) (h2 : noneE e = false) (h3 : ∀ m,m < l.length → nb k l D i m) : Srch.cand (stOf k l) D i = true := by
  simp only [Srch.cand,Bool.and_eq_true,List.all_eq_true,List.mem_range,may_evs k l hi,h1,h2]
  refine ⟨⟨rfl,rfl⟩,fun m hm => ?_⟩
  rcases h3 m (by have h := hm;rw [show (stOf k l).n = l.length from List.length_map ..] at h;exact h) with h | h | h
  · simp [h]
  · simp [h]
  · simp [h]
section
variable {w0 w : World} {g mb : Nat} {A0 : Option Addr} {n c0 al : Nat} {P0 P1 okq okn : Nat → Prop} {B : Nat} {v v1 : Value} {p : List S40} {seen seen' : List (Nat × List UInt8)} {vo : Value} {so so' : List Nat} {W W' : World}
theorem SF.push (h : SF w0 w g mb A0 n c0 al P0 okq B v p seen vo so W) (hb : Below w0.heap.size w0 W') (hg : W.grownBy W' vo.ownBlock) (hP : ∀ b,P1 b → P0 b ∨ w.heap.size ≤ b) (hvo : ∀ b,vo.ownBlock = some b → P1 b) (hR : Kd.R (Kd.int .i64) 3 W' w0.heap.size P1 v1 (toI so'))
    (hg0 : w0.heap.size ≤ g) (hne : g ≠ mb) (hPg : ¬ P1 g) (hPm : ¬ P1 mb) (hok : ∀ b,okq b → ¬ P1 b ∧ b ≠ g ∧ b ≠ mb) :
    SF w0 w g mb A0 n c0 al P0 okq B v p seen v1 so' (W'.setCell ⟨g,3,none⟩ v1) ∧ Kd.R (Kd.int .i64) 3 (W'.setCell ⟨g,3,none⟩ v1) w0.heap.size P1 v1 (toI so') := by
  have hgl : g < W.heap.size := (Array.getElem?_eq_some_iff.1 h.x).1
  have hne' : ∀ b,¬ P1 b → some b ≠ vo.ownBlock := fun b hb e => hb (hvo b e.symm)
  have hst : ∀ b,b < W.heap.size → ¬ P1 b → b ≠ g → (W'.setCell ⟨g,3,none⟩ v1).heap[b]? = W.heap[b]? := fun b hl hb hbg => (Below.heap_setCell W' ⟨g,3,none⟩ v1 b hbg).trans (hg.block b hl (hne' b hb))
  have hR2 : Kd.R (Kd.int .i64) 3 (W'.setCell ⟨g,3,none⟩ v1) w0.heap.size P1 v1 (toI so') := Kd.R_far (p := ⟨g,3,none⟩) hR (fun b hb e => hPg (by have e1 : b = g := e;exact e1 ▸ hb)) v1
  refine ⟨⟨below_set hb hg0,⟨Nat.le_trans h.k.1 (by have := hg.size;simpa [World.setCell] using this),fun i hi hn => ?_⟩,?_,h.s.keep (hst mb (seen_lt h.s) hPm (Ne.symm hne)),Kd.R_mono hR2 hP,?_⟩,hR2⟩
  · have h1 : ¬ P1 i := fun hp => by
      rcases hP i hp with h | h
      · exact hn (.inl h)
      · omega
    exact (hst i (Nat.lt_of_lt_of_le hi h.k.1) h1 (fun e => hn (.inr (.inl e)))).trans (h.k.2 i hi hn)
  · exact blk_put ((hg.block g hgl (hne' g hPg)).trans h.x) 3 v1 rfl
  · exact Kd.V_map h.v (fun A hf => Kd.F_step hf (fun b hb hl => hst b hl (hok b hb).1 (hok b hb).2.1))
/-- Behind a search that went on from here. -/
theorem SF.child (h : SF w0 w g mb A0 n c0 al P0 okq B v p seen v1 so W) (hb : Below w0.heap.size w0 W') (hk : Kept W W' (fun b => P1 b ∨ b = g ∨ b = mb)) (hx : W'.heap[g]? = some (.cells (srA A0 n c0 al mb vo) 155 (0,0))) (hs : SeenAt W' mb seen') (hR : Kd.R (Kd.int .i64) 3 W' w0.heap.size (fun b => P1 b ∨ W.heap.size ≤ b) vo (toI so'))
    (hP : ∀ b,P1 b → P0 b ∨ w.heap.size ≤ b) (hok : ∀ b,okq b → ¬ P1 b ∧ b ≠ g ∧ b ≠ mb) : SF w0 w g mb A0 n c0 al P0 okq B v p seen' vo so' W' := by
  refine ⟨hb,⟨Nat.le_trans h.k.1 hk.1,fun i hi hn => ?_⟩,hx,hs,Kd.R_mono hR (fun b hb => ?_),Kd.V_map h.v (fun A hf => Kd.F_step hf (fun b hb hl => hk.2 b hl (fun hc => ?_)))⟩
  · refine (hk.2 i (Nat.lt_of_lt_of_le hi h.k.1) (fun hc => ?_)).trans (h.k.2 i hi hn)
    rcases hc with hc | hc
    · rcases hP i hc with h | h
      · exact hn (.inl h)
      · omega
    · exact hn (.inr hc)
  · rcases hb with hb | hb
    · exact hP b hb
    · exact .inr (Nat.le_trans h.k.1 hb)
  · have := hok b hb
    rcases hc with hc | hc | hc
    · exact this.1 hc
    · exact this.2.1 hc
    · exact this.2.2 hc
/-- Without its last one. -/
theorem R_pop {ok : Nat → Prop} {A : Option Addr} {c base : Nat} {xs : List Int} {x : Int} (h : Kd.R (Kd.int .i64) 3 W base ok (.slice A (xs.length + 1) c) (xs ++ [x])) : Kd.R (Kd.int .i64) 3 W base ok (.slice A xs.length c) xs := by
  rw [R_iff (flat_int .i64)] at h ⊢
  obtain ⟨h1,h2,h3⟩ := h
  refine ⟨fun k hk => h1 k (by cases A <;> simp_all [Value.ownBlock]),⟨by rw [flatMap_length (flat_int .i64)],?_⟩⟩
  rcases h3 with ⟨e,_⟩ | ⟨g,cap,cur,e,hb,hg,hn,hm,hcs,htk⟩
  · simp at e
  · injection e with e1 e2 e3
    subst e1 e3
    refine .inr ⟨g,c,cur,rfl,hb,hg,by simp at hn;omega,hm,hcs,?_⟩
    have hl : (xs.flatMap fun x => [Value.int .i64 x]).length = xs.length * 1 := flatMap_length (flat_int .i64) xs
    have := congrArg (fun t => t.take (xs.length * 1)) htk
    simp only [List.take_take,List.flatMap_append] at this
    rw [Nat.min_eq_left (by show xs.length * 1 ≤ (xs ++ [x]).length * 1;simp),List.take_left' hl] at this
    exact this
end
theorem noGoto_ret {Q : Exit → Act → World → Prop} {a : Act} {w : World} (h : Q .ret a w) : Exit.noGoto Q .ret a w := h
theorem find.settle {p : World → Prop} {w : World} (R : World → Prop) (h : R w) (k : ∀ W,R W → p W) : p w := k w h
end Go.Proofs.Ytkoiffkonjpoiaa.Q
namespace Go.Proofs.Ytkoiffkonjpoiaa.Q
open Go.RowKit Go.Proofs.YtkoiffkonjpoiaaW.PrintWords Go.Proofs.YtkoiffkonjpoiaaW.PrintLast Go.Proofs.YtkoiffkonjpoiaaW.PrintMore Go.Proofs.YtkoiffkonjpoiaaX
attribute [local go_sem] max2_int min2_int max_two min_two max_three min_three max_four min_four
set_option linter.unusedVariables false
set_option linter.unusedSimpArgs false
set_option maxHeartbeats 8000000 in
set_option maxRecDepth 100000 in
theorem find.calls (k : Nat) (l : List S128) (w0 : World) (A0 : Option Addr) (c0 : Nat) (hr0 : Kd.C k128 w0 A0 l.length l) (hc0 : l.length ≤ c0) (hn : l.length ≤ 62) (g mb : Nat) (hg0 : w0.heap.size ≤ g) (hm0 : w0.heap.size ≤ mb) (hne : g ≠ mb) :
    ∀ (f D : Nat) (p : List S40) (seen : List (Nat × List UInt8)) (so : List Nat) (r : Bool × List (Nat × List UInt8) × List Nat),find.f k l f D p seen so = some r →
    ∀ (P0 okp : Nat → Prop) (B : Nat) (A : Option Addr) (c : Nat) (vo : Value) (w : World),D < 18446744073709551616 → p.length < 8796093022208 → so.length + f < 8796093022208 → Below w0.heap.size w0 w →
    w.heap[g]? = some (.cells (srA A0 l.length c0 (allM l) mb vo) 155 (0,0)) → SeenAt w mb seen → Kd.R (Kd.int .i64) 3 w w0.heap.size P0 vo (toI so) → ¬ P0 g → ¬ P0 mb →
    Kd.V k40 40 w B okp (.slice A p.length c) p → (∀ b,okp b → ¬ P0 b ∧ b ≠ g ∧ b ≠ mb) →
    Calls Try.prog 120 #[.pointer (some ⟨g,0,none⟩),.int .u64 (D : Int),.slice A p.length c] w fun e w' => e = .returned (.bool r.1) ∧ ∃ vo',Below w0.heap.size w0 w' ∧ Kept w w' (fun b => P0 b ∨ b = g ∨ b = mb) ∧
      w'.heap[g]? = some (.cells (srA A0 l.length c0 (allM l) mb vo') 155 (0,0)) ∧ SeenAt w' mb r.2.1 ∧ Kd.R (Kd.int .i64) 3 w' w0.heap.size (fun b => P0 b ∨ w.heap.size ≤ b) vo' (toI r.2.2) := by
  have HR0 := Lib.hid hr0
  have HC0 := Lib.hid hc0
  have hu128 := Try.underlying128
  have hu155 := Try.underlying155
  have hu172 := Try.underlying172
  have hu84 := Try.underlying84
  have hu78 := Try.underlying78
  have info3 : (Try.prog.info? 3).map (fun i => (i.zero,i.size,i.bytes)) = some (some (.int .i64 0),1,8) := by kernel_rfl
  clear hr0 hc0
  intro f
  induction f with
  | zero => intro D p seen so r h;cases h
  | succ f ih =>
    intro D p seen so r h P0 okp B A c vo w hD hp hso hB hX hS hO hPg hPm hV hok
    have HB := Lib.hid hB
    have HX := Lib.hid hX
    have HS := Lib.hid hS
    have HO := Lib.hid hO
    have HV : Hid (Kd.V k40 40 w B (fun b => okp b ∧ b < w.heap.size) (.slice A p.length c) p) := Lib.hid (Kd.V_map hV (fun A hf => Kd.F_bound hf))
    have IH := Lib.hid ih
    simp only [find.f,Srch.find] at h
    have H := Lib.hid h
    clear h hB hX hS hO hV ih
    obtain ⟨okq,hokq⟩ : ∃ okq,okq = fun b => okp b ∧ b < w.heap.size := ⟨_,rfl⟩
    have hok2 : ∀ b,okq b → ¬ P0 b ∧ b ≠ g ∧ b ≠ mb ∧ b < w.heap.size := by
      rw [hokq]
      exact fun b hb => ⟨(hok b hb.1).1,(hok b hb.1).2.1,(hok b hb.1).2.2,hb.2⟩
    rw [← hokq] at HV
    clear hokq hok
    have hok : ∀ b,okq b → ¬ P0 b ∧ b ≠ g ∧ b ≠ mb := fun b hb => ⟨(hok2 b hb).1,(hok2 b hb).2.1,(hok2 b hb).2.2.1⟩
    have HF : Hid (SF w0 w g mb A0 l.length c0 (allM l) P0 okq B (.slice A p.length c) p seen vo so w) := Lib.hid ⟨HB.out,⟨Nat.le_refl _,fun _ _ _ => rfl⟩,HX.out,HS.out,Kd.R_mono HO.out (fun _ h => .inl h),HV.out⟩
    have hsb := below_size HB.out
    have hmw := seen_lt HS.out
    have hgw : g < w.heap.size := (Array.getElem?_eq_some_iff.1 HX.out).1
    clear HB HX HS HO HV
    have hA := allIn_bits k l D hD hn
    by_cases hall : Srch.allIn (stOf k l) D = true
    · have h := H.out
      rw [if_pos hall] at h
      obtain rfl := Option.some.inj h
      clear h H
      rw [hall] at hA
      go_enter Try.func120,Try.ntmps120
      go_upto_region 1 with (fail)
      refine wp_scope_straight (wp_seq_k (fun K1 hK1 => wp_seq_k (fun K2 hK2 => ?_)))
      refine drawn_all (by kernel_rfl) ?_
      intro W hW hBW
      have HF1 := Lib.hid (HF.out.below hBW)
      obtain ⟨g0,g1,g2,g3,g3f⟩ := HF1.out.cells
      repeat still_step
      refine wpStill_nil ?_
      clear hW hBW
      go_wp2
      refine noGoto_ret ?_
      go_ret
      exact ⟨rfl,vo,HF1.out.b,HF1.out.k,HF1.out.x,HF1.out.s,HF1.out.o⟩
    · have hall' : Srch.allIn (stOf k l) D = false := by simpa using hall
      rw [hall'] at hA
      go_enter Try.func120,Try.ntmps120
      go_upto_region 1 with (fail)
      refine wp_scope_straight (wp_seq_k (fun K1 hK1 => wp_seq_k (fun K2 hK2 => ?_)))
      refine drawn_all (by kernel_rfl) ?_
      intro W hW hBW
      have HF1 := Lib.hid (HF.out.below hBW)
      obtain ⟨g0,g1,g2,g3,g3f⟩ := HF1.out.cells
      repeat still_step
      refine wpStill_nil ?_
      clear hW hBW
      go_upto_region 4 with (go_at_call 133;refine Calls.mono (text.calls A c p _ (Kd.V_reads' HF1.out.v).2.2 (Kd.V_reads' HF1.out.v).2.1 hp) ?_;rintro e w2 ⟨rfl,hb⟩;have HF2 := Lib.hid (HF1.out.below hb);clear hb)
      refine find.settle (p := fun W => Code.wp _ _ _ _ W) (R := fun W => Hid (SF w0 w g mb A0 l.length c0 (allM l) P0 okq B (.slice A p.length c) p seen vo so W) ∧ Hid (W.heap[w2.heap.size]? = some (.cells #[.int .u64 (D : Int),.string (txt p)] 172 (0,0)))) ⟨Lib.hid (HF2.out.below (below_alloc (Below.refl _ _) _)),Lib.hid (heap_alloc_new _ _)⟩ ?_
      rintro w3 ⟨HF3,HZ⟩
      clear HF1 HF2 g0 g1 g2 g3 g3f
      have hky : okKey (D,txtU p) := ⟨hD,by show (txtU p).length ≤ maxLen;unfold txtU;rw [List.length_map,textL_length];unfold maxLen;omega⟩
      refine drawn_tail 5 (by kernel_rfl) ?_
      intro W hW hBW
      have HF4 := Lib.hid (HF3.out.below hBW)
      have HZ4 := Lib.hid (blk_below HZ.out hBW)
      obtain ⟨g0,g1,g2,g3,g3f⟩ := HF4.out.cells
      have z0 : W.cell? ⟨w2.heap.size,0,none⟩ = some (.int .u64 (D : Int)) := (blk_cell HZ4.out 0).trans rfl
      have z1 : W.cell? ⟨w2.heap.size,1,none⟩ = some (.string (txt p)) := (blk_cell HZ4.out 1).trans rfl
      clear hW hBW HF3 HZ
      simp only [List.take_succ_cons,List.take_zero,List.drop_succ_cons,List.drop_zero]
      repeat still_step
      refine wpStill_nil ?_
      by_cases hmem : (D,txtU p) ∈ seen
      · have h := H.out
        rw [if_neg hall,if_pos hmem] at h
        obtain rfl := Option.some.inj h
        clear h H
        go_wp2_with (at_lookup;refine wpList_seen_look _ rfl _ _ rfl mb seen rfl HF4.out.s (D,txtU p) rfl hky ?_;rw [if_pos hmem])
        refine noGoto_ret ?_
        go_ret
        exact ⟨rfl,vo,HF4.out.b,HF4.out.k,HF4.out.x,HF4.out.s,HF4.out.o⟩
      · go_upto_region 6 with (at_lookup;refine wpList_seen_look _ rfl _ _ rfl mb seen rfl HF4.out.s (D,txtU p) rfl hky ?_;rw [if_neg hmem])
        refine drawn_tail 5 (by kernel_rfl) ?_
        intro W5 hW hBW
        have HF5 := Lib.hid (HF4.out.below hBW)
        have HZ5 := Lib.hid (blk_below HZ4.out hBW)
        clear g0 g1 g2 g3 g3f z0 z1
        obtain ⟨g0,g1,g2,g3,g3f⟩ := HF5.out.cells
        have z0 : W5.cell? ⟨w2.heap.size,0,none⟩ = some (.int .u64 (D : Int)) := (blk_cell HZ5.out 0).trans rfl
        have z1 : W5.cell? ⟨w2.heap.size,1,none⟩ = some (.string (txt p)) := (blk_cell HZ5.out 1).trans rfl
        clear hW hBW HF4 HZ4
        simp only [List.take_succ_cons,List.take_zero,List.drop_succ_cons,List.drop_zero]
        repeat still_step
        refine wpStill_nil ?_
        go_upto_region 7 with (at_mapUpdate;refine wpList_seen_put _ rfl _ _ _ rfl mb seen rfl HF5.out.s (D,txtU p) rfl rfl hky hmem ?_;intro w6 hs6 hg6;have HF6 := Lib.hid (HF5.out.put hs6 hg6 hne hm0 hPm hmw hsb hok);clear hs6 hg6)
        refine wp_label ?_
        have hSn : (stOf k l).n = l.length := List.length_map ..
        have h := H.out
        rw [if_neg hall,if_neg hmem,hSn] at h
        have H2 := Lib.hid h
        clear h H hA hall hall' g0 g1 g2 g3 g3f z0 z1 HF5 HZ5
        obtain ⟨g0,g1,g2,g3,g3f⟩ := HF6.out.cells
        go_wp2_with fail
        clear g0 g1 g2 g3 g3f
        go_loopg [46] l.length (fun gk v46 W => ∃ (i : Nat) (sn : List (Nat × List UInt8)) (vq : Value),v46 = .int .i64 (i : Int) ∧ i ≤ l.length ∧ l.length - i ≤ gk ∧ Hid (Srch.go (stOf k l) (stepF k l) (Srch.find (stOf k l) txtU (stepF k l) f) D p ((List.range l.length).drop i) sn so = some r) ∧ Hid (SF w0 w g mb A0 l.length c0 (allM l) P0 okq B (.slice A p.length c) p sn vq so W))
        case atStart => exact ⟨0,_,vo,rfl,by omega,by omega,H2,HF6⟩
        case round =>
          clear H2 HF6
          obtain ⟨i,sn,vq,rfl,hi1,hgk,HG,HF⟩ := hrel
          by_cases hi : i < l.length
          · obtain ⟨e,he⟩ : ∃ e,e = rd_T128 l (i : Int) := ⟨_,rfl⟩
            have hli : l[i]? = some e := by rw [he];simp [rd_T128,hi]
            obtain ⟨ad,A11,c11,e1,x0,x1,x2,x3,x4,x5,x6,x7,x8,x9,x10,x11,x12,l11,g11⟩ := ev_at HR0.out HF.out.b i hi e he
            have HE := Lib.hid (And.intro l11 g11)
            clear l11 g11 he
            cases e1
            have hid : decide ((i : Int) < (l.length : Int)) = true := decide_eq_true (by omega)
            have hiw : IntKind.i64.wrap ((i : Int) + 1) = (i : Int) + 1 := by rw [IntKind.wrap_i64];omega
            have hdrop : (List.range l.length).drop i = i :: (List.range l.length).drop (i + 1) := by
              rw [List.drop_eq_getElem_cons (by simpa using hi)]
              simp
            have h := HG.out
            rw [hdrop] at h
            simp only [Srch.go] at h
            have HH := Lib.hid h
            clear h HG hdrop
            go_upto_region 10 with (fail)
            refine find.settle (p := fun W => Code.wp _ _ _ _ W) (R := fun W => Hid (SF w0 w g mb _ l.length c0 (allM l) P0 okq B (.slice A p.length c) p sn vq so W) ∧ Hid (W.heap[wr.heap.size]? = some (.cells (evA e A11 c11) 128 (0,0)))) ⟨Lib.hid (HF.out.below (below_alloc (Below.refl _ _) _)),Lib.hid (heap_alloc_new _ _)⟩ ?_
            rintro w3 ⟨HF3,HZ⟩
            clear HF x0 x1 x2 x3 x4 x5 x6 x7 x8 x9 x10 x11 x12
            obtain ⟨z0,z1,z2,z3,z4,z5,z6,z7,z8,z9,z10,z11,z12⟩ := ev_cells HZ.out
            have hb := bit_at D i hD
            have HG' : ¬ Srch.cand (stOf k l) D i = true → Hid (Srch.go (stOf k l) (stepF k l) (Srch.find (stOf k l) txtU (stepF k l) f) D p ((List.range l.length).drop (i + 1)) sn so = some r) := fun hc => Lib.hid (by have h := HH.out;rwa [if_neg hc] at h)
            by_cases hbit : D.testBit i = true
            · have HG1 := HG' (cand_no1 k l hbit)
              rw [if_pos hbit] at hb
              clear HG' HH
              go_wp2_with fail
              go_roundg (l.length - (i + 1))
              case rel => exact ⟨i + 1,sn,vq,by first | rfl | exact congrArg _ hiw | (simp [hiw]),by omega,by omega,HG1,HF3⟩
              all_goals omega
            · have hbit' : D.testBit i = false := by simpa using hbit
              rw [if_neg hbit] at hb
              by_cases hnone : noneE e = true
              · have HG1 := HG' (cand_no2 k l hli hnone)
                clear HG' HH
                go_wp2_with (go_at_call 95;refine (evNone e A11 c11 _).mono ?_;rintro e w4 ⟨rfl,hb4⟩;rw [hnone];have HF4 := Lib.hid (HF3.out.below hb4);clear hb4)
                go_roundg (l.length - (i + 1))
                case rel => exact ⟨i + 1,sn,vq,by first | rfl | exact congrArg _ hiw | (simp [hiw]),by omega,by omega,HG1,HF4⟩
                all_goals omega
              · have hnone' : noneE e = false := by simpa using hnone
                go_upto_region 11 with (go_at_call 95;refine (evNone e A11 c11 _).mono ?_;rintro e w4 ⟨rfl,hb4⟩;rw [hnone'];have HF4 := Lib.hid (HF3.out.below hb4);have HZ4 := Lib.hid (blk_below HZ.out hb4);clear hb4)
                clear z0 z1 z2 z3 z4 z5 z6 z7 z8 z9 z10 z11 z12 HF3 HZ hb
                obtain ⟨g0,g1,g2,g3,g3f⟩ := HF4.out.cells
                go_wp2_with fail
                clear g0 g1 g2 g3 g3f
                generalize wr.heap.size = gE at *
                go_loopg [65] l.length (fun gk v65 W => ∃ (j : Nat),v65 = .int .i64 (j : Int) ∧ j ≤ l.length ∧ l.length - j ≤ gk ∧ Hid (∀ m,m < j → nb k l D i m) ∧ Hid (SF w0 w g mb _ l.length c0 (allM l) P0 okq B (.slice A p.length c) p sn vq so W) ∧ Hid (W.heap[gE]? = some (.cells (evA e A11 c11) 128 (0,0))))
                case atStart => exact ⟨0,rfl,by omega,by omega,Lib.hid (fun m hm => by omega),HF4,HZ4⟩
                case round =>
                  clear HF4 HZ4
                  obtain ⟨j,rfl,hj1,hjk,HN,HF,HZ⟩ := hrel
                  by_cases hj : j < l.length
                  · obtain ⟨f',hf⟩ : ∃ f',f' = rd_T128 l (j : Int) := ⟨_,rfl⟩
                    have hlj : l[j]? = some f' := by rw [hf];simp [rd_T128,hj]
                    obtain ⟨ad2,A12,c12,e2,x0,x1,x2,x3,x4,x5,x6,x7,x8,x9,x10,x11,x12,l12,g12⟩ := ev_at HR0.out HF.out.b j hj f' hf
                    clear l12 g12 hf
                    cases e2
                    have hjd : decide ((j : Int) < (l.length : Int)) = true := decide_eq_true (by omega)
                    have hjw : IntKind.i64.wrap ((j : Int) + 1) = (j : Int) + 1 := by rw [IntKind.wrap_i64];omega
                    have hbe := before_evs k l hli hlj
                    go_upto_region 14 with (fail)
                    refine find.settle (p := fun W => Code.wp _ _ _ _ W) (R := fun W => Hid (SF w0 w g mb _ l.length c0 (allM l) P0 okq B (.slice A p.length c) p sn vq so W) ∧ Hid (W.heap[gE]? = some (.cells (evA e A11 c11) 128 (0,0))) ∧ Hid (W.heap[wr.heap.size]? = some (.cells (evA f' A12 c12) 128 (0,0)))) ⟨Lib.hid (HF.out.below (below_alloc (Below.refl _ _) _)),Lib.hid (blk_alloc HZ.out _),Lib.hid (heap_alloc_new _ _)⟩ ?_
                    clear HF HZ x0 x1 x2 x3 x4 x5 x6 x7 x8 x9 x10 x11 x12
                    rintro w5 ⟨HF5,HZ5,HY5⟩
                    obtain ⟨z0,z1,z2,z3,z4,z5,z6,z7,z8,z9,z10,z11,z12⟩ := ev_cells HZ5.out
                    obtain ⟨y0,y1,y2,y3,y4,y5,y6,y7,y8,y9,y10,y11,y12⟩ := ev_cells HY5.out
                    have hb := bit_at D j hD
                    have HN1 : nb k l D i j → Hid (∀ m,m < j + 1 → nb k l D i m) := fun h => Lib.hid (fun m hm => by
                      rcases Nat.lt_or_ge m j with h1 | h1
                      · exact HN.out m h1
                      · obtain rfl : m = j := by omega
                        exact h)
                    by_cases hbj : D.testBit j = true
                    · have HN2 := HN1 (.inl hbj)
                      rw [if_pos hbj] at hb
                      go_wp2_with fail
                      go_roundg (l.length - (j + 1))
                      case rel => exact ⟨j + 1,by first | rfl | exact congrArg _ hjw | (simp [hjw]),by omega,by omega,HN2,HF5,HZ5⟩
                      all_goals omega
                    · have hbj' : D.testBit j = false := by simpa using hbj
                      rw [if_neg hbj] at hb
                      by_cases hji : j = i
                      · have HN2 := HN1 (.inr (.inl hji))
                        have hjn : ((j : Int) != (i : Int)) = false := bne_eq_false_iff_eq.mpr (congrArg Int.ofNat hji)
                        clear hji
                        go_wp2_with fail
                        go_roundg (l.length - (j + 1))
                        case rel => exact ⟨j + 1,by first | rfl | exact congrArg _ hjw | (simp [hjw]),by omega,by omega,HN2,HF5,HZ5⟩
                        all_goals omega
                      · have hjn : ((j : Int) != (i : Int)) = true := bne_iff_ne.mpr (fun h => hji (Int.ofNat.inj h))
                        by_cases hmu : mustE f' = true
                        · by_cases hlt : f'.f3 < e.f2
                          · have hbe1 : (stOf k l).before j i = true := by rw [hbe,hmu,decide_eq_true hlt];rfl
                            have HG1 := HG' (cand_no3 k l hj hbj' hji hbe1)
                            have hld : decide (f'.f3 < e.f2) = true := decide_eq_true hlt
                            go_wp2_with (go_at_call 117;refine (evMust f' A12 c12 _).mono ?_;rintro e_ w6 ⟨rfl,hb6⟩;rw [hmu];have HF6 := Lib.hid (HF5.out.below hb6);obtain ⟨z0',z1',z2',z3',z4',z5',z6',z7',z8',z9',z10',z11',z12'⟩ := ev_cells (blk_below HZ5.out hb6);obtain ⟨y0',y1',y2',y3',y4',y5',y6',y7',y8',y9',y10',y11',y12'⟩ := ev_cells (blk_below HY5.out hb6);clear hb6)
                            go_roundg (l.length - (i + 1))
                            case rel => exact ⟨i + 1,sn,vq,by first | rfl | exact congrArg _ hiw | (simp [hiw]),by omega,by omega,HG1,HF6⟩
                            all_goals omega
                          · have HN2 := HN1 (.inr (.inr (by rw [hbe,decide_eq_false hlt,Bool.and_false])))
                            have hld : decide (f'.f3 < e.f2) = false := decide_eq_false hlt
                            go_wp2_with (go_at_call 117;refine (evMust f' A12 c12 _).mono ?_;rintro e_ w6 ⟨rfl,hb6⟩;rw [hmu];have HF6 := Lib.hid (HF5.out.below hb6);have HZ6 := Lib.hid (blk_below HZ5.out hb6);obtain ⟨z0',z1',z2',z3',z4',z5',z6',z7',z8',z9',z10',z11',z12'⟩ := ev_cells (blk_below HZ5.out hb6);obtain ⟨y0',y1',y2',y3',y4',y5',y6',y7',y8',y9',y10',y11',y12'⟩ := ev_cells (blk_below HY5.out hb6);clear hb6)
                            go_roundg (l.length - (j + 1))
                            case rel => exact ⟨j + 1,by first | rfl | exact congrArg _ hjw | (simp [hjw]),by omega,by omega,HN2,HF6,HZ6⟩
                            all_goals omega
                        · have hmu' : mustE f' = false := by simpa using hmu
                          have HN2 := HN1 (.inr (.inr (by rw [hbe,hmu'];rfl)))
                          go_wp2_with (go_at_call 117;refine (evMust f' A12 c12 _).mono ?_;rintro e_ w6 ⟨rfl,hb6⟩;rw [hmu'];have HF6 := Lib.hid (HF5.out.below hb6);have HZ6 := Lib.hid (blk_below HZ5.out hb6);clear hb6)
                          go_roundg (l.length - (j + 1))
                          case rel => exact ⟨j + 1,by first | rfl | exact congrArg _ hjw | (simp [hjw]),by omega,by omega,HN2,HF6,HZ6⟩
                          all_goals omega
                  · obtain rfl : j = l.length := by omega
                    have hjd : decide ((l.length : Int) < (l.length : Int)) = false := decide_eq_false (by omega)
                    have hcand := cand_yes k l hli hbit' hnone' HN.out
                    have h := HH.out
                    rw [if_pos hcand] at h
                    obtain ⟨xo,hxo,hr⟩ := Option.bind_eq_some_iff.1 h
                    simp only [stepF,hli,stepE] at hxo
                    obtain ⟨⟨a1,a2,a3,a4,a5,a6,a7⟩,ha,hxo⟩ := Option.bind_eq_some_iff.1 hxo
                    dsimp only at hxo
                    have hlen : a1.length < 8796093022208 := by
                      by_cases hq : a1.length < 8796093022208
                      · exact hq
                      · rw [if_neg hq] at hxo;cases hxo
                    rw [if_pos hlen] at hxo
                    have HXo := Lib.hid hxo
                    have HRo := Lib.hid hr
                    have HA := Lib.hid ha
                    clear h HH hxo hr ha HG' HN
                    have hR1 : Hid (Kd.R (Kd.int .i64) 3 wr w0.heap.size (fun b => (P0 b ∨ w.heap.size ≤ b) ∧ b < wr.heap.size) vq (toI so)) := Lib.hid (Kd.R_mono (Kd.R_bound HF.out.o) (fun b h => ⟨h.1,h.2.2.1⟩))
                    obtain ⟨z0,z1,z2,z3,z4,z5,z6,z7,z8,z9,z10,z11,z12⟩ := ev_cells HZ.out
                    go_upto_region 17 with (go_at_call 74;refine Calls.mono (model_Apply.calls k A c p e.f1.f0 e.f1.f1 e.f1.f2 e.f1.f3 a1 a2 a3 a4 a5 a6 a7 _ (Kd.V_reads' HF.out.v).2.2 (Kd.V_reads' HF.out.v).2.1 HA.out) ?_;rintro e_ wT ⟨v0,v5,rfl,hO1,hO2,hb⟩;obtain ⟨Ax,cx,ex⟩ := Kd.R_slice hO1;subst ex;obtain ⟨Ay,cy,ey⟩ := Kd.R_slice hO2;subst ey;have HFT := Lib.hid (HF.out.below hb);have HZT := Lib.hid (blk_below HZ.out hb);have HRT := Lib.hid (Kd.R_below hR1.out hb);have HVT : Hid (Kd.V k40 40 wT wr.heap.size (fun b => wr.heap.size ≤ b ∧ b < wT.heap.size) (.slice Ax a1.length cx) a1) := Lib.hid (Kd.V_mono (Kd.R_V (Kd.R_bound hO1)) (fun b h => ⟨h.2.1,h.2.2.1⟩));have HYT := Lib.hid (Kd.R_reads' hO2).2;have hTs := hb.size;clear hO1 hO2 hb)
                    obtain ⟨hle6,hC6⟩ := HYT.out
                    have hwr := HF.out.k.1
                    refine find.settle (p := fun W => Code.wp _ _ _ _ W) (R := fun W => Hid (SF w0 w g mb _ l.length c0 (allM l) P0 okq B (.slice A p.length c) p sn vq so W) ∧ Hid (W.heap[gE]? = some (.cells (evA e A11 c11) 128 (0,0))) ∧ Hid (W.heap[wT.heap.size]? = some (.cells #[.int .i64 a2,.bool a3,.int .i64 a4,.int .i64 a5,.slice Ay a6.length cy,.bool a7] 84 (0,0))) ∧ Hid (Kd.R (Kd.int .i64) 3 W w0.heap.size (fun b => (P0 b ∨ w.heap.size ≤ b) ∧ b < wr.heap.size) vq (toI so)) ∧ Hid (Kd.V k40 40 W wr.heap.size (fun b => wr.heap.size ≤ b ∧ b < wT.heap.size) (.slice Ax a1.length cx) a1) ∧ Hid (a6.length ≤ cy ∧ Kd.C k40 W Ay a6.length a6) ∧ Hid (wT.heap.size ≤ W.heap.size))
                      ⟨Lib.hid (HFT.out.below (below_alloc (Below.refl _ _) _)),Lib.hid (blk_alloc HZT.out _),Lib.hid (heap_alloc_new _ _),Lib.hid (Kd.R_alloc HRT.out _),Lib.hid (Kd.V_alloc HVT.out _),Lib.hid ⟨hle6,Kd.C_alloc hC6 _⟩,Lib.hid (below_alloc (Below.refl wT.heap.size wT) _).size⟩ ?_
                    clear HFT HZT HRT HVT HYT hle6 hC6 HF HZ hR1 z0 z1 z2 z3 z4 z5 z6 z7 z8 z9 z10 z11 z12
                    rintro wU ⟨HFU,HZU,HYb,HRU,HVU,HYU,HsU⟩
                    obtain ⟨P1,hP1d⟩ : ∃ P1 : Nat → Prop,P1 = fun b => (P0 b ∨ w.heap.size ≤ b) ∧ ¬ (wr.heap.size ≤ b ∧ b < wT.heap.size) := ⟨_,rfl⟩
                    have hP1 : ∀ b,P1 b → P0 b ∨ w.heap.size ≤ b := by rw [hP1d];exact fun b h => h.1
                    have hPg1 : ¬ P1 g := fun h => by rcases hP1 g h with h | h;exact hPg h;omega
                    have hPm1 : ¬ P1 mb := fun h => by rcases hP1 mb h with h | h;exact hPm h;omega
                    have hok1 : ∀ b,okq b → ¬ P1 b ∧ b ≠ g ∧ b ≠ mb := fun b hb => ⟨fun h => by rcases hP1 b h with h | h;exact (hok2 b hb).1 h;have := (hok2 b hb).2.2.2;omega,(hok b hb).2.1,(hok b hb).2.2⟩
                    have hokn : ∀ b,(wr.heap.size ≤ b ∧ b < wT.heap.size) → ¬ P1 b := by rw [hP1d];exact fun b hb h => h.2 hb
                    have hokn2 : ∀ b,(wr.heap.size ≤ b ∧ b < wT.heap.size) → ¬ P1 b ∧ b ≠ g ∧ b ≠ mb := fun b hb => ⟨hokn b hb,by omega,by omega⟩
                    have hPr : ∀ b,(P0 b ∨ w.heap.size ≤ b) → b < wr.heap.size → P1 b := by rw [hP1d];exact fun b h1 h2 => ⟨h1,by omega⟩
                    have hPf : ∀ n_,wT.heap.size ≤ n_ → ∀ b,n_ ≤ b → P1 b := by rw [hP1d];exact fun n_ h1 b h2 => ⟨.inr (by omega),by omega⟩
                    clear hP1d
                    have hi64 : i < 62 := by omega
                    have hD2 : D ||| 1 <<< i < 18446744073709551616 := Nat.or_lt_two_pow (n := 64) hD (by rw [Nat.one_shiftLeft];exact Nat.pow_lt_pow_right (by decide) (by omega))
                    have hxo := HXo.out
                    have hr := HRo.out
                    clear HXo HRo
                    obtain ⟨z0,z1,z2,z3,z4,z5,z6,z7,z8,z9,z10,z11,z12⟩ := ev_cells HZU.out
                    by_cases h0 : 0 ≤ e.f3
                    · have hans : decide (0 ≤ e.f3) = true := decide_eq_true h0
                      rw [if_pos h0] at hxo
                      obtain ⟨sm,hsm,hxo⟩ := Option.bind_eq_some_iff.1 hxo
                      have HSm := Lib.hid hsm
                      obtain rfl := Option.some.inj hxo
                      clear hsm hxo
                      cases sm with
                      | false =>
                        simp only [Bool.false_eq_true,if_false] at hr
                        have HG1 := Lib.hid hr
                        clear hr
                        go_wp2_with (first | (go_at_call 96;refine (evAns e A11 c11 _).mono ?_;rintro e_ wX ⟨rfl,hbX⟩;rw [hans];have HFX := Lib.hid (HFU.out.below hbX);have HRX := Lib.hid (Kd.R_below HRU.out hbX);have HVX := Lib.hid (Kd.V_below HVU.out hbX);have HsX := Lib.hid (Nat.le_trans HsU.out hbX.size);have HYX := Lib.hid (And.intro HYU.out.1 (Kd.C_below HYU.out.2 hbX));obtain ⟨z0',z1',z2',z3',z4',z5',z6',z7',z8',z9',z10',z11',z12'⟩ := ev_cells (blk_below HZU.out hbX);have q0 : wX.cell? ⟨wT.heap.size,0,none⟩ = some (.int .i64 a2) := (blk_cell (blk_below HYb.out hbX) 0).trans rfl;have q1 : wX.cell? ⟨wT.heap.size,1,none⟩ = some (.bool a3) := (blk_cell (blk_below HYb.out hbX) 1).trans rfl;have q2 : wX.cell? ⟨wT.heap.size,2,none⟩ = some (.int .i64 a4) := (blk_cell (blk_below HYb.out hbX) 2).trans rfl;have q3 : wX.cell? ⟨wT.heap.size,3,none⟩ = some (.int .i64 a5) := (blk_cell (blk_below HYb.out hbX) 3).trans rfl;have q4 : wX.cell? ⟨wT.heap.size,4,none⟩ = some (.slice Ay a6.length cy) := (blk_cell (blk_below HYb.out hbX) 4).trans rfl;have q5 : wX.cell? ⟨wT.heap.size,5,none⟩ = some (.bool a7) := (blk_cell (blk_below HYb.out hbX) 5).trans rfl;clear hbX) | (go_at_call 81;refine Calls.mono (model_Same.calls k a2 a3 a4 a5 Ay cy a6 a7 e.f4.f0 e.f4.f1 e.f4.f2 e.f4.f3 A11 c11 e.f4.f4 e.f4.f5 false _ HYX.out.2 HYX.out.1 (Kd.C_below HE.out.2 HFX.out.b) HE.out.1 HSm.out) ?_;rintro e_ wY ⟨rfl,hbY⟩;have HFY := Lib.hid (HFX.out.below hbY);clear hbY))
                        go_roundg (l.length - (i + 1))
                        case rel => exact ⟨i + 1,sn,vq,by first | rfl | exact congrArg _ hiw | (simp [hiw]),by omega,by omega,HG1,HFY⟩
                        all_goals omega
                      | true =>
                        simp only [if_true] at hr
                        go_upto_region 18 with (first | (go_at_call 96;refine (evAns e A11 c11 _).mono ?_;rintro e_ wX ⟨rfl,hbX⟩;rw [hans];have HFX := Lib.hid (HFU.out.below hbX);have HRX := Lib.hid (Kd.R_below HRU.out hbX);have HVX := Lib.hid (Kd.V_below HVU.out hbX);have HsX := Lib.hid (Nat.le_trans HsU.out hbX.size);have HYX := Lib.hid (And.intro HYU.out.1 (Kd.C_below HYU.out.2 hbX));obtain ⟨z0',z1',z2',z3',z4',z5',z6',z7',z8',z9',z10',z11',z12'⟩ := ev_cells (blk_below HZU.out hbX);have q0 : wX.cell? ⟨wT.heap.size,0,none⟩ = some (.int .i64 a2) := (blk_cell (blk_below HYb.out hbX) 0).trans rfl;have q1 : wX.cell? ⟨wT.heap.size,1,none⟩ = some (.bool a3) := (blk_cell (blk_below HYb.out hbX) 1).trans rfl;have q2 : wX.cell? ⟨wT.heap.size,2,none⟩ = some (.int .i64 a4) := (blk_cell (blk_below HYb.out hbX) 2).trans rfl;have q3 : wX.cell? ⟨wT.heap.size,3,none⟩ = some (.int .i64 a5) := (blk_cell (blk_below HYb.out hbX) 3).trans rfl;have q4 : wX.cell? ⟨wT.heap.size,4,none⟩ = some (.slice Ay a6.length cy) := (blk_cell (blk_below HYb.out hbX) 4).trans rfl;have q5 : wX.cell? ⟨wT.heap.size,5,none⟩ = some (.bool a7) := (blk_cell (blk_below HYb.out hbX) 5).trans rfl;clear hbX) | (go_at_call 81;refine Calls.mono (model_Same.calls k a2 a3 a4 a5 Ay cy a6 a7 e.f4.f0 e.f4.f1 e.f4.f2 e.f4.f3 A11 c11 e.f4.f4 e.f4.f5 true _ HYX.out.2 HYX.out.1 (Kd.C_below HE.out.2 HFX.out.b) HE.out.1 HSm.out) ?_;rintro e_ wW ⟨rfl,hbY⟩;have HFW := Lib.hid (HFX.out.below hbY);have HRW := Lib.hid (Kd.R_below HRX.out hbY);have HVW := Lib.hid (Kd.V_below HVX.out hbY);have HsW := Lib.hid (Nat.le_trans HsX.out hbY.size);clear hbY))
                        have hso8 : ((toI so).length + 1) * 8 ≤ 140737488355328 := by unfold toI;rw [List.length_map];omega
                        have HRW2 : Hid (Kd.R (Kd.int .i64) 3 wW w0.heap.size P1 vq (toI so)) := Lib.hid (Kd.R_mono HRW.out (fun b h => hPr b h.1 h.2))
                        have hfr : ∀ b,wW.heap.size ≤ b → P1 b := hPf _ HsW.out
                        clear HRW
                        have HRW := HRW2
                        clear HRW2
                        obtain ⟨g0,g1,g2,g3,g3f⟩ := HFW.out.cells
                        go_upto_region 19 with ((with_reducible refine gate_builtin (b := .append) (xs := #[.tmp 112,.tmp 114]) rfl ?_);at_builtin;refine Kd.R_append (Kd.int .i64) (w0 := w0) w0.heap.size rfl (.tmp 112) (.tmp 114) 110 3 (.int .i64 0) 8 rfl Try.underlying110 info3 rfl (by decide) (by omega) vq (toI so) (i : Int) [.int .i64 (i : Int)] P1 (fun _ => False) rfl rfl rfl (fun _ hk => hk.elim) hfr HRW.out HFW.out.b (below_size HFW.out.b) hso8 ?_;intro v1 w7 ho hb hg hat;rw [← toI_snoc] at ho;obtain ⟨Ao,co,eo⟩ := Kd.R_slice ho;subst eo;have HP := Lib.hid (HFW.out.push hb hg hP1 HRW.out.1 ho hg0 hne hPg1 hPm1 hok1);have HVn : Hid (Kd.V k40 40 w7 wr.heap.size (fun b => wr.heap.size ≤ b ∧ b < wT.heap.size) (.slice Ax a1.length cx) a1) := Lib.hid (Kd.V_map HVW.out (fun A hf => Kd.F_step hf (fun b hb_ hl => hg.block b hl (fun e_ => hokn b hb_ (HRW.out.1 b e_.symm)))));have hx7 := (hg.block g (Array.getElem?_eq_some_iff.1 HFW.out.x).1 (fun e_ => hPg1 (HRW.out.1 g e_.symm))).trans HFW.out.x;have k3 : w7.cell? ⟨g,3,none⟩ = some vq := (blk_cell hx7 3).trans rfl;have k3f := blk_frozen hx7 3;clear ho hb hg hat hx7)
                        refine find.settle (p := fun W => Code.wp _ _ _ _ W) (R := fun W => Hid (SF w0 w g mb _ l.length c0 (allM l) P0 okq B (.slice A p.length c) p sn (.slice Ao (toI (so ++ [i])).length co) (so ++ [i]) W) ∧ Hid (Kd.R (Kd.int .i64) 3 W w0.heap.size P1 (.slice Ao (toI (so ++ [i])).length co) (toI (so ++ [i]))) ∧ Hid (Kd.V k40 40 W wr.heap.size (fun b => wr.heap.size ≤ b ∧ b < wT.heap.size) (.slice Ax a1.length cx) a1)) ⟨Lib.hid HP.out.1,Lib.hid HP.out.2,Lib.hid (Kd.V_far (p := ⟨g,3,none⟩) HVn.out (fun b hb_ e_ => by have e1 : b = g := e_;have := hb_.1;omega) _)⟩ ?_
                        clear HP HVn HFW HRW HVW g0 g1 g2 g3 g3f k3 k3f
                        rintro w8 ⟨HF8,HR8,HV8⟩
                        obtain ⟨⟨xb,xs,xso⟩,hx,hr2⟩ := Option.bind_eq_some_iff.1 hr
                        have hor := or_at D i hD (by omega)
                        generalize D ||| 1 <<< i = D2 at hx hor hD2
                        have HX2 := Lib.hid hx
                        have hfal := Srch.find_false (stOf k l) txtU (stepF k l) f D2 a1 sn (so ++ [i]) _ hx
                        clear hr hx
                        cases xb with
                        | true =>
                          obtain rfl := Option.some.inj hr2
                          clear hr2 hfal
                          go_wp2_with (go_at_call 120;refine Calls.mono (IH.out D2 a1 sn (so ++ [i]) _ HX2.out P1 (fun b => wr.heap.size ≤ b ∧ b < wT.heap.size) _ Ax cx (.slice Ao (toI (so ++ [i])).length co) _ hD2 hlen (by simp;omega) HF8.out.b HF8.out.x HF8.out.s HR8.out hPg1 hPm1 HV8.out hokn2) ?_;rintro e_ w9 ⟨rfl,vo9,hb9,hk9,hx9,hs9,hR9⟩;have HF9 := Lib.hid (HF8.out.child hb9 hk9 hx9 hs9 hR9 hP1 hok1);clear hb9 hk9 hx9 hs9 hR9)
                          refine noGoto_ret ?_
                          go_ret
                          exact ⟨rfl,vo9,HF9.out.b,HF9.out.k,HF9.out.x,HF9.out.s,HF9.out.o⟩
                        | false =>
                          have hxso : xso = so ++ [i] := hfal rfl
                          subst hxso
                          clear hfal
                          rw [if_neg (by simp)] at hr2
                          have HG1 := Lib.hid hr2
                          clear hr2
                          go_upto_region 21 with (go_at_call 120;refine Calls.mono (IH.out D2 a1 sn (so ++ [i]) _ HX2.out P1 (fun b => wr.heap.size ≤ b ∧ b < wT.heap.size) _ Ax cx (.slice Ao (toI (so ++ [i])).length co) _ hD2 hlen (by simp;omega) HF8.out.b HF8.out.x HF8.out.s HR8.out hPg1 hPm1 HV8.out hokn2) ?_;rintro e_ w9 ⟨rfl,vo9,hb9,hk9,hx9,hs9,hR9⟩;have HF9 := Lib.hid (HF8.out.child hb9 hk9 hx9 hs9 hR9 hP1 hok1);have HR9 := Lib.hid hR9;have hs98 := hk9.1;clear hb9 hk9 hx9 hs9 hR9)
                          obtain ⟨N,hN⟩ : ∃ N,N = (toI so).length := ⟨_,rfl⟩
                          have hL : (toI (so ++ [i])).length = N + 1 := by rw [toI_snoc,List.length_append,hN];rfl
                          obtain ⟨A9,c9,e9⟩ := Kd.R_slice HR9.out
                          rw [hL] at e9
                          subst e9
                          have hNb : N < 8796093022208 := by rw [hN];unfold toI;rw [List.length_map];omega
                          have hNc : N + 1 ≤ c9 := (Kd.R_reads' HR9.out).2.1
                          obtain ⟨ad9,ea9,_⟩ := (Kd.R_reads' HR9.out).2.2.2.2 (by rw [toI_snoc];simp)
                          subst ea9
                          clear hL
                          have HN9 := Lib.hid hN
                          have hwN : IntKind.i64.wrap ((N : Nat) : Int) = (N : Int) := by rw [IntKind.wrap_i64];omega
                          have hNle : N ≤ c9 := by omega
                          clear hN hs98
                          refine drawn_tail 14 (by kernel_rfl) ?_
                          intro W10 hW hBW
                          have HF10 := Lib.hid (HF9.out.below hBW)
                          obtain ⟨g0,g1,g2,g3,g3f⟩ := HF10.out.cells
                          clear hW HF9
                          simp only [List.take_succ_cons,List.take_zero,List.drop_succ_cons,List.drop_zero]
                          repeat still_step
                          refine wpStill_nil ?_
                          have HB11 : Hid (SF w0 w g mb _ l.length c0 (allM l) P0 okq B (.slice A p.length c) p xs (.slice (some ad9) N c9) so (W10.setCell ⟨g,3,none⟩ (.slice (some ad9) N c9))) := Lib.hid ((HF10.out.push HF10.out.b (World.grownBy.refl _ _) (fun _ h => h) HF10.out.o.1 (by have h := HF10.out.o;rw [toI_snoc,HN9.out] at h;rw [HN9.out];exact R_pop h) hg0 hne (fun h => by rcases h with h | h;exact hPg h;omega) (fun h => by rcases h with h | h;exact hPm h;omega) (fun b hb => ⟨fun h => by rcases h with h | h;exact (hok b hb).1 h;have := (hok2 b hb).2.2.2;omega,(hok b hb).2.1,(hok b hb).2.2⟩)).1)
                          go_wp2_with fail
                          go_roundg (l.length - (i + 1))
                          case rel => exact ⟨i + 1,xs,_,by first | rfl | exact congrArg _ hiw | (simp [hiw]),by omega,by omega,HG1,HB11⟩
                          all_goals omega
                    · have hans : decide (0 ≤ e.f3) = false := decide_eq_false h0
                      rw [if_neg h0] at hxo
                      obtain rfl := Option.some.inj hxo
                      clear hxo
                      dsimp only at hr
                      go_upto_region 18 with (go_at_call 96;refine (evAns e A11 c11 _).mono ?_;rintro e_ wW ⟨rfl,hbW⟩;rw [hans];have HFW := Lib.hid (HFU.out.below hbW);have HRW := Lib.hid (Kd.R_below HRU.out hbW);have HVW := Lib.hid (Kd.V_below HVU.out hbW);have HsW := Lib.hid (Nat.le_trans HsU.out hbW.size);clear hbW)
                      have hso8 : ((toI so).length + 1) * 8 ≤ 140737488355328 := by unfold toI;rw [List.length_map];omega
                      have HRW2 : Hid (Kd.R (Kd.int .i64) 3 wW w0.heap.size P1 vq (toI so)) := Lib.hid (Kd.R_mono HRW.out (fun b h => hPr b h.1 h.2))
                      have hfr : ∀ b,wW.heap.size ≤ b → P1 b := hPf _ HsW.out
                      clear HRW
                      have HRW := HRW2
                      clear HRW2
                      obtain ⟨g0,g1,g2,g3,g3f⟩ := HFW.out.cells
                      go_upto_region 19 with ((with_reducible refine gate_builtin (b := .append) (xs := #[.tmp 112,.tmp 114]) rfl ?_);at_builtin;refine Kd.R_append (Kd.int .i64) (w0 := w0) w0.heap.size rfl (.tmp 112) (.tmp 114) 110 3 (.int .i64 0) 8 rfl Try.underlying110 info3 rfl (by decide) (by omega) vq (toI so) (i : Int) [.int .i64 (i : Int)] P1 (fun _ => False) rfl rfl rfl (fun _ hk => hk.elim) hfr HRW.out HFW.out.b (below_size HFW.out.b) hso8 ?_;intro v1 w7 ho hb hg hat;rw [← toI_snoc] at ho;obtain ⟨Ao,co,eo⟩ := Kd.R_slice ho;subst eo;have HP := Lib.hid (HFW.out.push hb hg hP1 HRW.out.1 ho hg0 hne hPg1 hPm1 hok1);have HVn : Hid (Kd.V k40 40 w7 wr.heap.size (fun b => wr.heap.size ≤ b ∧ b < wT.heap.size) (.slice Ax a1.length cx) a1) := Lib.hid (Kd.V_map HVW.out (fun A hf => Kd.F_step hf (fun b hb_ hl => hg.block b hl (fun e_ => hokn b hb_ (HRW.out.1 b e_.symm)))));have hx7 := (hg.block g (Array.getElem?_eq_some_iff.1 HFW.out.x).1 (fun e_ => hPg1 (HRW.out.1 g e_.symm))).trans HFW.out.x;have k3 : w7.cell? ⟨g,3,none⟩ = some vq := (blk_cell hx7 3).trans rfl;have k3f := blk_frozen hx7 3;clear ho hb hg hat hx7)
                      refine find.settle (p := fun W => Code.wp _ _ _ _ W) (R := fun W => Hid (SF w0 w g mb _ l.length c0 (allM l) P0 okq B (.slice A p.length c) p sn (.slice Ao (toI (so ++ [i])).length co) (so ++ [i]) W) ∧ Hid (Kd.R (Kd.int .i64) 3 W w0.heap.size P1 (.slice Ao (toI (so ++ [i])).length co) (toI (so ++ [i]))) ∧ Hid (Kd.V k40 40 W wr.heap.size (fun b => wr.heap.size ≤ b ∧ b < wT.heap.size) (.slice Ax a1.length cx) a1)) ⟨Lib.hid HP.out.1,Lib.hid HP.out.2,Lib.hid (Kd.V_far (p := ⟨g,3,none⟩) HVn.out (fun b hb_ e_ => by have e1 : b = g := e_;have := hb_.1;omega) _)⟩ ?_
                      clear HP HVn HFW HRW HVW g0 g1 g2 g3 g3f k3 k3f
                      rintro w8 ⟨HF8,HR8,HV8⟩
                      obtain ⟨⟨xb,xs,xso⟩,hx,hr2⟩ := Option.bind_eq_some_iff.1 hr
                      have hor := or_at D i hD (by omega)
                      generalize D ||| 1 <<< i = D2 at hx hor hD2
                      have HX2 := Lib.hid hx
                      have hfal := Srch.find_false (stOf k l) txtU (stepF k l) f D2 a1 sn (so ++ [i]) _ hx
                      clear hr hx
                      cases xb with
                      | true =>
                        obtain rfl := Option.some.inj hr2
                        clear hr2 hfal
                        go_wp2_with (go_at_call 120;refine Calls.mono (IH.out D2 a1 sn (so ++ [i]) _ HX2.out P1 (fun b => wr.heap.size ≤ b ∧ b < wT.heap.size) _ Ax cx (.slice Ao (toI (so ++ [i])).length co) _ hD2 hlen (by simp;omega) HF8.out.b HF8.out.x HF8.out.s HR8.out hPg1 hPm1 HV8.out hokn2) ?_;rintro e_ w9 ⟨rfl,vo9,hb9,hk9,hx9,hs9,hR9⟩;have HF9 := Lib.hid (HF8.out.child hb9 hk9 hx9 hs9 hR9 hP1 hok1);clear hb9 hk9 hx9 hs9 hR9)
                        refine noGoto_ret ?_
                        go_ret
                        exact ⟨rfl,vo9,HF9.out.b,HF9.out.k,HF9.out.x,HF9.out.s,HF9.out.o⟩
                      | false =>
                        have hxso : xso = so ++ [i] := hfal rfl
                        subst hxso
                        clear hfal
                        rw [if_neg (by simp)] at hr2
                        have HG1 := Lib.hid hr2
                        clear hr2
                        go_upto_region 21 with (go_at_call 120;refine Calls.mono (IH.out D2 a1 sn (so ++ [i]) _ HX2.out P1 (fun b => wr.heap.size ≤ b ∧ b < wT.heap.size) _ Ax cx (.slice Ao (toI (so ++ [i])).length co) _ hD2 hlen (by simp;omega) HF8.out.b HF8.out.x HF8.out.s HR8.out hPg1 hPm1 HV8.out hokn2) ?_;rintro e_ w9 ⟨rfl,vo9,hb9,hk9,hx9,hs9,hR9⟩;have HF9 := Lib.hid (HF8.out.child hb9 hk9 hx9 hs9 hR9 hP1 hok1);have HR9 := Lib.hid hR9;have hs98 := hk9.1;clear hb9 hk9 hx9 hs9 hR9)
                        obtain ⟨N,hN⟩ : ∃ N,N = (toI so).length := ⟨_,rfl⟩
                        have hL : (toI (so ++ [i])).length = N + 1 := by rw [toI_snoc,List.length_append,hN];rfl
                        obtain ⟨A9,c9,e9⟩ := Kd.R_slice HR9.out
                        rw [hL] at e9
                        subst e9
                        have hNb : N < 8796093022208 := by rw [hN];unfold toI;rw [List.length_map];omega
                        have hNc : N + 1 ≤ c9 := (Kd.R_reads' HR9.out).2.1
                        obtain ⟨ad9,ea9,_⟩ := (Kd.R_reads' HR9.out).2.2.2.2 (by rw [toI_snoc];simp)
                        subst ea9
                        clear hL
                        have HN9 := Lib.hid hN
                        have hwN : IntKind.i64.wrap ((N : Nat) : Int) = (N : Int) := by rw [IntKind.wrap_i64];omega
                        have hNle : N ≤ c9 := by omega
                        clear hN hs98
                        refine drawn_tail 14 (by kernel_rfl) ?_
                        intro W10 hW hBW
                        have HF10 := Lib.hid (HF9.out.below hBW)
                        obtain ⟨g0,g1,g2,g3,g3f⟩ := HF10.out.cells
                        clear hW HF9
                        simp only [List.take_succ_cons,List.take_zero,List.drop_succ_cons,List.drop_zero]
                        repeat still_step
                        refine wpStill_nil ?_
                        have HB11 : Hid (SF w0 w g mb _ l.length c0 (allM l) P0 okq B (.slice A p.length c) p xs (.slice (some ad9) N c9) so (W10.setCell ⟨g,3,none⟩ (.slice (some ad9) N c9))) := Lib.hid ((HF10.out.push HF10.out.b (World.grownBy.refl _ _) (fun _ h => h) HF10.out.o.1 (by have h := HF10.out.o;rw [toI_snoc,HN9.out] at h;rw [HN9.out];exact R_pop h) hg0 hne (fun h => by rcases h with h | h;exact hPg h;omega) (fun h => by rcases h with h | h;exact hPm h;omega) (fun b hb => ⟨fun h => by rcases h with h | h;exact (hok b hb).1 h;have := (hok2 b hb).2.2.2;omega,(hok b hb).2.1,(hok b hb).2.2⟩)).1)
                        go_wp2_with fail
                        go_roundg (l.length - (i + 1))
                        case rel => exact ⟨i + 1,xs,_,by first | rfl | exact congrArg _ hiw | (simp [hiw]),by omega,by omega,HG1,HB11⟩
                        all_goals omega
          · obtain rfl : i = l.length := by omega
            have hid : decide ((l.length : Int) < (l.length : Int)) = false := decide_eq_false (by omega)
            have h := HG.out
            rw [List.drop_of_length_le (by simp)] at h
            simp only [Srch.go] at h
            obtain rfl := Option.some.inj h
            clear h HG
            go_wp2_with fail
            refine noGoto_ret ?_
            go_ret
            exact ⟨rfl,vq,HF.out.b,HF.out.k,HF.out.x,HF.out.s,HF.out.o⟩
end Go.Proofs.Ytkoiffkonjpoiaa.Q
namespace Go.Proofs.Ytkoiffkonjpoiaa.Q
open Go.RowKit Go.Proofs.YtkoiffkonjpoiaaW.PrintWords Go.Proofs.YtkoiffkonjpoiaaW.PrintLast Go.Proofs.YtkoiffkonjpoiaaW.PrintMore Go.Proofs.YtkoiffkonjpoiaaX
attribute [local go_sem] max2_int min2_int max_two min_two max_three min_three max_four min_four Oper.quiet Oper.quietAt Oper.quietUpon
set_option linter.unusedVariables false
set_option linter.unusedSimpArgs false
/-- The places of an order's numbers; nothing where one is no number of an event, or stands twice, or did nothing. -/
def ph1 (l : List S128) : Nat → List Int → List Int → Option (List Int)
  | _,at_,[] => some at_
  | k,at_,i :: r => if i < 0 ∨ (l.length : Int) ≤ i then none else if 0 < at_.getD i.toNat 0 then none else if noneE (rd_T128 l i) = true then none else ph1 l (k + 1) (at_.set i.toNat ((k : Int) + 1)) r
def badI (l : List S128) (at_ : List Int) (i k : Nat) : Bool := mustE (rd_T128 l i) && decide ((rd_T128 l i).f3 < (rd_T128 l k).f2) && decide (0 < at_.getD k 0) && decide (at_.getD k 0 < at_.getD i 0)
def outI (l : List S128) (at_ : List Int) (i : Nat) : Bool := mustE (rd_T128 l i) && at_.getD i 0 == 0
def ph2 (l : List S128) (at_ : List Int) : Bool := (List.range l.length).all fun i => !outI l at_ i && (List.range l.length).all fun k => !badI l at_ i k
def ph3 (k : Nat) (l : List S128) : List S40 → List Int → Option Bool
  | _,[] => some true
  | p,i :: r => (stepF k l p i.toNat).bind fun x => match x with | none => some false | some q => ph3 k l q r
def Legal.f (k : Nat) (l0 : List S40) (l : List S128) (order : List Int) : Option Bool :=
  if l.length < 8796093022208 ∧ l0.length < 8796093022208 then (match ph1 l 0 (List.replicate l.length 0) order with | none => some false | some at_ => if ph2 l at_ = true then ph3 k l l0 order else some false) else none
theorem ph1_ok (l : List S128) : ∀ (order : List Int) (k : Nat) (at_ at2 : List Int),ph1 l k at_ order = some at2 → ∀ i ∈ order,0 ≤ i ∧ i < (l.length : Int)
  | [],_,_,_,_,i,hi => by simp at hi
  | j :: r,k,at_,at2,h,i,hi => by
    simp only [ph1] at h
    split at h
    · cases h
    · rename_i h1
      split at h
      · cases h
      · split at h
        · cases h
        · rcases List.mem_cons.1 hi with rfl | hi
          · omega
          · exact ph1_ok l r _ _ _ h i hi
/-- The places' cells. -/
def atA (at_ : List Int) : Array Value := (at_.map (Value.int .i64)).toArray
theorem at_cell {W : World} {g : Nat} {at_ : List Int} (h : W.heap[g]? = some (.cells (atA at_) 3 (0,0))) (i : Nat) (hi : i < at_.length) : W.cell? ⟨g,i,none⟩ = some (.int .i64 (at_.getD i 0)) := by
  rw [cells_cell h]
  simp [atA,hi]
theorem at_put {W : World} {g : Nat} {at_ : List Int} (h : W.heap[g]? = some (.cells (atA at_) 3 (0,0))) (i : Nat) (x : Int) : (W.setCell ⟨g,i,none⟩ (.int .i64 x)).heap[g]? = some (.cells (atA (at_.set i x)) 3 (0,0)) :=
  blk_put h i _ (by simp [atA,List.map_set])
theorem at_made (n : Nat) : madeCells #[Value.int .i64 0] n = atA (List.replicate n 0) := by
  apply Array.ext'
  rw [toList_madeCells_one]
  simp [atA]
structure WQ (ops : Array Oper) (C : World → Prop) (Q : Act → Prop) (l : List Oper) (a : Act) : Prop where
  out : wpQuiet Try.prog ops C Q l a
theorem WQ_step {ops : Array Oper} {C : World → Prop} {Q : Act → Prop} {o : Oper} {rest : List Oper} {a : Act} (h : ∀ K : Act → Prop,(∀ a,WQ ops C Q rest a → K a) → if Region.wanted o (yielded ops a.tmps) then o.quiet Try.prog a C K else K (a.put o.dst undef)) : WQ ops C Q (o :: rest) a :=
  ⟨wpQuiet_step (fun K hK => h K (fun a ha => hK a ha.out))⟩
theorem WQ_nil {ops : Array Oper} {C : World → Prop} {Q : Act → Prop} {a : Act} (h : Q a) : WQ ops C Q [] a := ⟨h⟩
theorem quiet_reg {id : Nat} {Q : Exit → Act → World → Prop} {a : Act} {w : World} {l : List Oper} (C : World → Prop) (hC0 : C w) (hCb : ∀ W W',C W → Below W.heap.size W W' → C W') (hB : Region.lexB .any l.toArray = true)
    (h : WQ l.toArray C (fun a' => ∀ w',C w' → Q .normal a' w') l a) : (Code.region id l.toArray true).wp Try.prog Q a w :=
  wp_region_quiet Try_mixed hB (hCb _ _ hC0 (below_drawn w)) (by simpa using h.out)
theorem ph2_no1 (l : List S128) (at_ : List Int) {i : Nat} (hi : i < l.length) (h : outI l at_ i = true) : ¬ ph2 l at_ = true := by
  intro hp
  have := List.all_eq_true.1 hp i (List.mem_range.2 hi)
  simp [h] at this
theorem ph2_no2 (l : List S128) (at_ : List Int) {i k : Nat} (hi : i < l.length) (hk : k < l.length) (h : badI l at_ i k = true) : ¬ ph2 l at_ = true := by
  intro hp
  have := List.all_eq_true.1 hp i (List.mem_range.2 hi)
  simp only [Bool.and_eq_true,List.all_eq_true,List.mem_range] at this
  have := this.2 k hk
  simp [h] at this
def goodI (l : List S128) (at_ : List Int) (i : Nat) : Prop := outI l at_ i = false ∧ ∀ k,k < l.length → badI l at_ i k = false
theorem ph2_yes (l : List S128) (at_ : List Int) (h : ∀ i,i < l.length → goodI l at_ i) : ph2 l at_ = true := by
  simp only [ph2,List.all_eq_true,List.mem_range,Bool.and_eq_true,Bool.not_eq_true']
  exact h
set_option maxHeartbeats 8000000 in
set_option maxRecDepth 100000 in
theorem Legal.calls (k : Nat) (A0 : Option Addr) (c0 : Nat) (l0 : List S40) (A1 : Option Addr) (c1 : Nat) (l : List S128) (A2 : Option Addr) (c2 : Nat) (order : List Int) (r : Bool) (w : World) (hr0 : Kd.C k40 w A0 l0.length l0) (hc0 : l0.length ≤ c0) (hr1 : Kd.C k128 w A1 l.length l) (hc1 : l.length ≤ c1) (hr2 : Kd.C (Kd.int .i64) w A2 order.length order) (hc2 : order.length ≤ c2) (h : Legal.f k l0 l order = some r) :
    Calls Try.prog 89 #[.slice A0 l0.length c0,.slice A1 l.length c1,.slice A2 order.length c2] w fun e w' => e = .returned (.bool r) ∧ Below w.heap.size w w' := by
  have hu128 := Try.underlying128
  have hu84 := Try.underlying84
  have hu78 := Try.underlying78
  have HR0 := Lib.hid hr0
  have HC0 := Lib.hid hc0
  have HR1 := Lib.hid hr1
  have HC1 := Lib.hid hc1
  have HR2 := Lib.hid hr2
  have HC2 := Lib.hid hc2
  clear hr0 hc0 hr1 hc1 hr2 hc2
  unfold Legal.f at h
  by_cases hlim : l.length < 8796093022208 ∧ l0.length < 8796093022208
  · rw [if_pos hlim] at h
    obtain ⟨hl1,hl0⟩ := hlim
    have H1 := Lib.hid h
    clear h
    obtain ⟨i3,hi3,hz3,hs3,hb3⟩ := info_parts (show (Try.prog.info? 3).map (fun i => (i.zero,i.size,i.bytes)) = some (some (.int .i64 0),1,8) by kernel_rfl)
    have hmk := fun w : World => run_make (P := Try.prog) w 110 3 i3 (.int .i64 0) Try.underlying110 hi3 hz3 .i64 .i64 (l.length : Int) (l.length : Int) (by omega) (Int.le_refl _) (by rw [hb3];omega) (by omega)
    go_enter Try.func89,Try.ntmps89
    go_upto_region 2 with (fail)
    refine find.settle (p := fun W => Code.wp _ _ _ _ W) (R := fun W => Hid (Below w.heap.size w W) ∧ Hid (W.heap[w.heap.size]? = some (.cells (atA (List.replicate l.length 0)) 3 (0,0)))) ⟨Lib.hid (below_alloc (Below.refl _ _) _),Lib.hid (by rw [at_made];exact heap_alloc_new _ _)⟩ ?_
    rintro w1 ⟨HB,HT⟩
    clear hmk hi3 hz3 hs3 hb3
    go_wp2_with fail
    go_loopg [24] order.length (fun gk v24 W => ∃ (kk : Nat) (at_ : List Int),v24 = .int .i64 (kk : Int) ∧ kk ≤ order.length ∧ order.length - kk ≤ gk ∧ at_.length = l.length ∧ Hid ((match ph1 l kk at_ (order.drop kk) with | none => some false | some at_ => if ph2 l at_ = true then ph3 k l l0 order else some false) = some r) ∧ Hid (Below w.heap.size w W) ∧ Hid (W.heap[w.heap.size]? = some (.cells (atA at_) 3 (0,0))) ∧ Hid (ph1 l kk at_ (order.drop kk) = ph1 l 0 (List.replicate l.length 0) order))
    case atStart => exact ⟨0,_,rfl,by omega,by omega,by simp,by rw [List.drop_zero];exact H1,HB,HT,Lib.hid (by rw [List.drop_zero])⟩
    case round =>
      clear H1 HB HT
      obtain ⟨kk,at_,rfl,hk1,hgk,hal,H1,HB,HT,HQ⟩ := hrel
      by_cases hkk : kk < order.length
      · obtain ⟨ad2,e2,y0⟩ := Kd.at_int (Kd.C_below HR2.out HB.out) (kk : Int) (by omega) (by omega)
        cases e2
        rw [Int.toNat_natCast] at y0
        obtain ⟨i,hie⟩ : ∃ i,i = rd order (kk : Int) := ⟨_,rfl⟩
        rw [← hie] at y0
        have hdrop : order.drop kk = i :: order.drop (kk + 1) := by
          rw [List.drop_eq_getElem_cons hkk,hie]
          simp [rd,hkk]
        have hkd : decide ((kk : Int) < (order.length : Int)) = true := decide_eq_true (by omega)
        have hkw : IntKind.i64.wrap ((kk : Int) + 1) = (kk : Int) + 1 := by
          have := C_len HR2.out
          rw [IntKind.wrap_i64];omega
        have h := H1.out
        have hq : ph1 l kk at_ (i :: order.drop (kk + 1)) = ph1 l kk at_ (order.drop kk) := by rw [hdrop]
        have HQ1 := HQ
        rw [hdrop] at h
        simp only [ph1] at h
        conv at hq => lhs;simp only [ph1]
        clear H1 HQ hdrop hie
        by_cases hi0 : i < 0
        · rw [if_pos (.inl hi0)] at h
          obtain rfl := Option.some.inj h
          have hd : decide (i < 0) = true := decide_eq_true hi0
          clear h hq
          go_wp2_with fail
          go_ret
          exact ⟨rfl,HB.out⟩
        · obtain ⟨j,rfl⟩ := Int.eq_ofNat_of_zero_le (show 0 ≤ i by omega)
          have hd : decide ((j : Int) < 0) = false := decide_eq_false hi0
          by_cases hjn : l.length ≤ j
          · rw [if_pos (.inr (by omega))] at h
            obtain rfl := Option.some.inj h
            have hd2 : decide ((l.length : Int) ≤ (j : Int)) = true := decide_eq_true (by omega)
            clear h hq hi0
            go_wp2_with fail
            go_ret
            exact ⟨rfl,HB.out⟩
          · have hd2 : decide ((l.length : Int) ≤ (j : Int)) = false := decide_eq_false (by omega)
            rw [if_neg (by omega)] at h hq
            rw [Int.toNat_natCast] at h hq
            have hj : j < l.length := by omega
            have t0 := at_cell HT.out j (by omega)
            obtain ⟨av,hav⟩ : ∃ av,av = at_.getD j 0 := ⟨_,rfl⟩
            rw [← hav] at t0 h hq
            have HAv := Lib.hid hav
            clear hav
            have hjc : decide ((j : Int) < (l.length : Int)) = true := decide_eq_true (by omega)
            by_cases ha0 : 0 < av
            · rw [if_pos ha0] at h
              obtain rfl := Option.some.inj h
              have hd3 : decide (0 < av) = true := decide_eq_true ha0
              clear h hq hi0
              go_wp2_with fail
              go_ret
              exact ⟨rfl,HB.out⟩
            · rw [if_neg ha0] at h hq
              have hd3 : decide (0 < av) = false := decide_eq_false ha0
              obtain ⟨e,he⟩ : ∃ e,e = rd_T128 l (j : Int) := ⟨_,rfl⟩
              rw [← he] at h hq
              obtain ⟨ad,A11,c11,e1,x0,x1,x2,x3,x4,x5,x6,x7,x8,x9,x10,x11,x12,l11,g11⟩ := ev_at HR1.out HB.out j hj e he
              clear l11 g11 he
              cases e1
              by_cases hno : noneE e = true
              · rw [if_pos hno] at h
                obtain rfl := Option.some.inj h
                clear h hq hi0
                go_wp2_with (go_at_call 95;refine (evNone e A11 c11 _).mono ?_;rintro e_ w4 ⟨rfl,hb4⟩;rw [hno];have HB4 := Lib.hid (below_step HB.out hb4);clear hb4)
                go_ret
                exact ⟨rfl,HB4.out⟩
              · have hno' : noneE e = false := by simpa using hno
                rw [if_neg hno] at h hq
                have H2 := Lib.hid h
                have HQ2 := Lib.hid (hq.trans HQ1.out)
                clear h hq hi0
                go_upto_region 7 with (go_at_call 95;refine (evNone e A11 c11 _).mono ?_;rintro e_ w4 ⟨rfl,hb4⟩;rw [hno'];have HB4 := Lib.hid (below_step HB.out hb4);have HT4 := Lib.hid (blk_below HT.out hb4);clear hb4)
                have t4 := at_cell HT4.out j (by omega)
                have t4f := blk_frozen HT4.out j
                have HB5 : Hid (Below w.heap.size w (w4.setCell ⟨w.heap.size,j,none⟩ (.int .i64 ((kk : Int) + 1)))) := Lib.hid (below_set HB4.out (Nat.le_refl _))
                have HT5 := Lib.hid (at_put HT4.out j ((kk : Int) + 1))
                go_wp2_with fail
                go_roundg (order.length - (kk + 1))
                case rel => exact ⟨kk + 1,_,by first | rfl | exact congrArg _ hkw | (simp [hkw]),by omega,by omega,by rw [List.length_set];exact hal,H2,HB5,HT5,HQ2⟩
                all_goals omega
      · obtain rfl : kk = order.length := by omega
        have hkd : decide ((order.length : Int) < (order.length : Int)) = false := decide_eq_false (by omega)
        have h := H1.out
        have hq := HQ.out
        rw [List.drop_length] at h hq
        simp only [ph1] at h hq
        have hvo := ph1_ok l order 0 _ at_ hq.symm
        have H2 := Lib.hid h
        clear h hq H1 HQ
        go_wp2_with fail
        go_loopg [59] l.length (fun gk v59 W => ∃ (i : Nat),v59 = .int .i64 (i : Int) ∧ i ≤ l.length ∧ l.length - i ≤ gk ∧ Hid (∀ m,m < i → goodI l at_ m) ∧ Hid (Below w.heap.size w W) ∧ Hid (W.heap[w.heap.size]? = some (.cells (atA at_) 3 (0,0))))
        case atStart => exact ⟨0,rfl,by omega,by omega,Lib.hid (fun m hm => by omega),HB,HT⟩
        case round =>
          clear HB HT
          obtain ⟨i,rfl,hi1,hik,HG,HB,HT⟩ := hrel
          by_cases hi : i < l.length
          · obtain ⟨e,he⟩ : ∃ e,e = rd_T128 l (i : Int) := ⟨_,rfl⟩
            obtain ⟨ad,A11,c11,e1,x0,x1,x2,x3,x4,x5,x6,x7,x8,x9,x10,x11,x12,l11,g11⟩ := ev_at HR1.out HB.out i hi e he
            have HE := Lib.hid he
            clear l11 g11 he
            cases e1
            have hid : decide ((i : Int) < (l.length : Int)) = true := decide_eq_true (by omega)
            have hiw : IntKind.i64.wrap ((i : Int) + 1) = (i : Int) + 1 := by rw [IntKind.wrap_i64];omega
            obtain ⟨ai,hai⟩ : ∃ ai,ai = at_.getD i 0 := ⟨_,rfl⟩
            have HAi := Lib.hid hai
            clear hai
            go_upto_region 12 with (fail)
            refine find.settle (p := fun W => Code.wp _ _ _ _ W) (R := fun W => Hid (Below w.heap.size w W) ∧ Hid (W.heap[w.heap.size]? = some (.cells (atA at_) 3 (0,0))) ∧ Hid (W.heap[wr.heap.size]? = some (.cells (evA e A11 c11) 128 (0,0)))) ⟨Lib.hid (below_alloc HB.out _),Lib.hid (blk_alloc HT.out _),Lib.hid (heap_alloc_new _ _)⟩ ?_
            clear HB HT x0 x1 x2 x3 x4 x5 x6 x7 x8 x9 x10 x11 x12
            rintro w3 ⟨HB,HT,HZ⟩
            generalize wr.heap.size = gE at *
            obtain ⟨z0,z1,z2,z3,z4,z5,z6,z7,z8,z9,z10,z11,z12⟩ := ev_cells HZ.out
            by_cases hout : outI l at_ i = true
            · have hf := ph2_no1 l at_ hi hout
              have h := H2.out
              rw [if_neg hf] at h
              obtain rfl := Option.some.inj h
              clear h H2 hf
              simp only [outI,Bool.and_eq_true] at hout
              rw [← HE.out,← HAi.out] at hout
              obtain ⟨hm,ha⟩ := hout
              go_wp2_with (go_at_call 117;refine (evMust e A11 c11 _).mono ?_;rintro e_ w4 ⟨rfl,hb4⟩;rw [hm];have HB4 := Lib.hid (below_step HB.out hb4);have t4 := at_cell (blk_below HT.out hb4) i (by omega);rw [← HAi.out] at t4;clear hb4)
              go_ret
              exact ⟨rfl,HB4.out⟩
            · have hout' : outI l at_ i = false := by simpa using hout
              by_cases hm : mustE e = true
              · have ha : (ai == 0) = false := by
                  have := hout'
                  simp only [outI] at this
                  rw [← HE.out,← HAi.out,hm] at this
                  simpa using this
                go_upto_region 14 with (go_at_call 117;refine (evMust e A11 c11 _).mono ?_;rintro e_ w4 ⟨rfl,hb4⟩;rw [hm];have HB4 := Lib.hid (below_step HB.out hb4);have HT4 := Lib.hid (blk_below HT.out hb4);have HZ4 := Lib.hid (blk_below HZ.out hb4);have t4 := at_cell (blk_below HT.out hb4) i (by omega);rw [← HAi.out] at t4;clear hb4)
                clear t4 HB HT HZ z0 z1 z2 z3 z4 z5 z6 z7 z8 z9 z10 z11 z12
                go_wp2_with fail
                go_loopg [75] l.length (fun gk v75 W => ∃ (j : Nat),v75 = .int .i64 (j : Int) ∧ j ≤ l.length ∧ l.length - j ≤ gk ∧ Hid (∀ m,m < j → badI l at_ i m = false) ∧ Hid (Below w.heap.size w W) ∧ Hid (W.heap[w.heap.size]? = some (.cells (atA at_) 3 (0,0))) ∧ Hid (W.heap[gE]? = some (.cells (evA e A11 c11) 128 (0,0))))
                case atStart => exact ⟨0,rfl,by omega,by omega,Lib.hid (fun m hm => by omega),HB4,HT4,HZ4⟩
                case round =>
                  clear HB4 HT4 HZ4
                  obtain ⟨j,rfl,hj1,hjk,HN,HB,HT,HZ⟩ := hrel
                  by_cases hj : j < l.length
                  · obtain ⟨f',hf'⟩ : ∃ f',f' = rd_T128 l (j : Int) := ⟨_,rfl⟩
                    obtain ⟨ad2,A12,c12,e2,x0,x1,x2,x3,x4,x5,x6,x7,x8,x9,x10,x11,x12,l12,g12⟩ := ev_at HR1.out HB.out j hj f' hf'
                    have HFf := Lib.hid hf'
                    clear l12 g12 hf'
                    cases e2
                    have hjd : decide ((j : Int) < (l.length : Int)) = true := decide_eq_true (by omega)
                    have hjw : IntKind.i64.wrap ((j : Int) + 1) = (j : Int) + 1 := by rw [IntKind.wrap_i64];omega
                    obtain ⟨aj,haj⟩ : ∃ aj,aj = at_.getD j 0 := ⟨_,rfl⟩
                    have HAj := Lib.hid haj
                    clear haj
                    go_upto_region 17 with (fail)
                    refine find.settle (p := fun W => Code.wp _ _ _ _ W) (R := fun W => Hid (Below w.heap.size w W) ∧ Hid (W.heap[w.heap.size]? = some (.cells (atA at_) 3 (0,0))) ∧ Hid (W.heap[gE]? = some (.cells (evA e A11 c11) 128 (0,0))) ∧ Hid (W.heap[wr.heap.size]? = some (.cells (evA f' A12 c12) 128 (0,0)))) ⟨Lib.hid (below_alloc HB.out _),Lib.hid (blk_alloc HT.out _),Lib.hid (blk_alloc HZ.out _),Lib.hid (heap_alloc_new _ _)⟩ ?_
                    clear HB HT HZ x0 x1 x2 x3 x4 x5 x6 x7 x8 x9 x10 x11 x12
                    rintro w5 ⟨HB5,HT5,HZ5,HY5⟩
                    generalize wr.heap.size = gF at *
                    have HN1 : badI l at_ i j = false → Hid (∀ m,m < j + 1 → badI l at_ i m = false) := fun h => Lib.hid (fun m hm => by
                      rcases Nat.lt_or_ge m j with h1 | h1
                      · exact HN.out m h1
                      · obtain rfl : m = j := by omega
                        exact h)
                    have hbad : badI l at_ i j = (mustE e && decide (e.f3 < f'.f2) && decide (0 < aj) && decide (aj < ai)) := by unfold badI;rw [HAj.out,HAi.out,HE.out,HFf.out]
                    obtain ⟨C,hCd⟩ : ∃ C : World → Prop,C = fun W => Hid (Below w.heap.size w W) ∧ Hid (W.heap[w.heap.size]? = some (.cells (atA at_) 3 (0,0))) ∧ Hid (W.heap[gE]? = some (.cells (evA e A11 c11) 128 (0,0))) ∧ Hid (W.heap[gF]? = some (.cells (evA f' A12 c12) 128 (0,0))) := ⟨_,rfl⟩
                    have hC0 : C w5 := by rw [hCd];exact ⟨HB5,HT5,HZ5,HY5⟩
                    have hCb : ∀ W W',C W → Below W.heap.size W W' → C W' := by rw [hCd];rintro W W' ⟨h1,h2,h3,h4⟩ hb;exact ⟨Lib.hid (below_step h1.out hb),Lib.hid (blk_below h2.out hb),Lib.hid (blk_below h3.out hb),Lib.hid (blk_below h4.out hb)⟩
                    have hfac : ∀ W,C W → W.cell? ⟨gE,0,none⟩ = some (.int .i64 e.f0) ∧ W.cell? ⟨gE,1,none⟩ = some (.int .u8 e.f1.f0) ∧ W.cell? ⟨gE,2,none⟩ = some (.int .i64 e.f1.f1) ∧ W.cell? ⟨gE,3,none⟩ = some (.int .i64 e.f1.f2) ∧ W.cell? ⟨gE,4,none⟩ = some (.int .i64 e.f1.f3) ∧ W.cell? ⟨gE,5,none⟩ = some (.int .i64 e.f2) ∧ W.cell? ⟨gE,6,none⟩ = some (.int .i64 e.f3) ∧ W.cell? ⟨gE,7,none⟩ = some (.int .i64 e.f4.f0) ∧ W.cell? ⟨gE,8,none⟩ = some (.bool e.f4.f1) ∧ W.cell? ⟨gE,9,none⟩ = some (.int .i64 e.f4.f2) ∧ W.cell? ⟨gE,10,none⟩ = some (.int .i64 e.f4.f3) ∧ W.cell? ⟨gE,11,none⟩ = some (.slice A11 e.f4.f4.length c11) ∧ W.cell? ⟨gE,12,none⟩ = some (.bool e.f4.f5) ∧ W.cell? ⟨gF,5,none⟩ = some (.int .i64 f'.f2) ∧ W.cell? ⟨w.heap.size,i,none⟩ = some (.int .i64 ai) ∧ W.cell? ⟨w.heap.size,j,none⟩ = some (.int .i64 aj) := by rw [hCd];rintro W ⟨h1,h2,h3,h4⟩;obtain ⟨z0,z1,z2,z3,z4,z5,z6,z7,z8,z9,z10,z11,z12⟩ := ev_cells h3.out;obtain ⟨y0,y1,y2,y3,y4,y5,y6,y7,y8,y9,y10,y11,y12⟩ := ev_cells h4.out;exact ⟨z0,z1,z2,z3,z4,z5,z6,z7,z8,z9,z10,z11,z12,y5,by have := at_cell h2.out i (by omega);rwa [← HAi.out] at this,by have := at_cell h2.out j (by omega);rwa [← HAj.out] at this⟩
                    have hcm : ∀ W,Calls Try.prog 117 #[.agg (evA e A11 c11)] W fun e_ w' => e_ = .returned (.bool true) ∧ Below W.heap.size W w' := by intro W;have := evMust e A11 c11 W;rwa [hm] at this
                    have HCd := Lib.hid hCd
                    clear hCd HB5 HT5 HZ5 HY5
                    by_cases hlt : e.f3 < f'.f2
                    · have hld : decide (e.f3 < f'.f2) = true := decide_eq_true hlt
                      by_cases ha1 : 0 < aj
                      · have hd1 : decide (0 < aj) = true := decide_eq_true ha1
                        by_cases ha2 : aj < ai
                        · have hd2 : decide (aj < ai) = true := decide_eq_true ha2
                          have hbt : badI l at_ i j = true := by rw [hbad,hm,hld,hd1,hd2];rfl
                          have hf := ph2_no2 l at_ hi hj hbt
                          have h := H2.out
                          rw [if_neg hf] at h
                          obtain rfl := Option.some.inj h
                          clear h H2 hf
                          refine quiet_reg C hC0 hCb (by kernel_rfl) ?_
                          repeat (refine WQ_step (fun K hK => ?_);go_simp;first | (refine hK _ ?_;clear hK K) | (apply Exists.intro;refine ⟨fun W hW => ?_,hK _ ?_⟩;(first | rfl | exact ⟨rfl,rfl⟩ | (obtain ⟨q0,q1,q2,q3,q4,q5,q6,q7,q8,q9,q10,q11,q12,q13,q14,q15⟩ := hfac W hW;first | (go_simp;done) | (go_simp;rfl) | (go_simp;exact ⟨rfl,rfl⟩) | exact (hcm W).mono (by rintro e_ w_ ⟨rfl,hb_⟩;exact ⟨rfl,hCb W w_ hW hb_⟩)));clear hK K))
                          refine WQ_nil ?_
                          intro W7 hW7
                          rw [HCd.out] at hW7
                          obtain ⟨HB7,HT7,HZ7,HY7⟩ := hW7
                          go_wp2_with fail
                          go_ret
                          exact ⟨rfl,HB7.out⟩
                        · have hd2 : decide (aj < ai) = false := decide_eq_false ha2
                          have HN2 := HN1 (by rw [hbad,hd2,Bool.and_false])
                          refine quiet_reg C hC0 hCb (by kernel_rfl) ?_
                          repeat (refine WQ_step (fun K hK => ?_);go_simp;first | (refine hK _ ?_;clear hK K) | (apply Exists.intro;refine ⟨fun W hW => ?_,hK _ ?_⟩;(first | rfl | exact ⟨rfl,rfl⟩ | (obtain ⟨q0,q1,q2,q3,q4,q5,q6,q7,q8,q9,q10,q11,q12,q13,q14,q15⟩ := hfac W hW;first | (go_simp;done) | (go_simp;rfl) | (go_simp;exact ⟨rfl,rfl⟩) | exact (hcm W).mono (by rintro e_ w_ ⟨rfl,hb_⟩;exact ⟨rfl,hCb W w_ hW hb_⟩)));clear hK K))
                          refine WQ_nil ?_
                          intro W7 hW7
                          rw [HCd.out] at hW7
                          obtain ⟨HB7,HT7,HZ7,HY7⟩ := hW7
                          go_wp2_with fail
                          go_roundg (l.length - (j + 1))
                          case rel => exact ⟨j + 1,by first | rfl | exact congrArg _ hjw | (simp [hjw]),by omega,by omega,HN2,HB7,HT7,HZ7⟩
                          all_goals omega
                      · have hd1 : decide (0 < aj) = false := decide_eq_false ha1
                        have HN2 := HN1 (by rw [hbad,hd1,Bool.and_false,Bool.false_and])
                        refine quiet_reg C hC0 hCb (by kernel_rfl) ?_
                        repeat (refine WQ_step (fun K hK => ?_);go_simp;first | (refine hK _ ?_;clear hK K) | (apply Exists.intro;refine ⟨fun W hW => ?_,hK _ ?_⟩;(first | rfl | exact ⟨rfl,rfl⟩ | (obtain ⟨q0,q1,q2,q3,q4,q5,q6,q7,q8,q9,q10,q11,q12,q13,q14,q15⟩ := hfac W hW;first | (go_simp;done) | (go_simp;rfl) | (go_simp;exact ⟨rfl,rfl⟩) | exact (hcm W).mono (by rintro e_ w_ ⟨rfl,hb_⟩;exact ⟨rfl,hCb W w_ hW hb_⟩)));clear hK K))
                        refine WQ_nil ?_
                        intro W7 hW7
                        rw [HCd.out] at hW7
                        obtain ⟨HB7,HT7,HZ7,HY7⟩ := hW7
                        go_wp2_with fail
                        go_roundg (l.length - (j + 1))
                        case rel => exact ⟨j + 1,by first | rfl | exact congrArg _ hjw | (simp [hjw]),by omega,by omega,HN2,HB7,HT7,HZ7⟩
                        all_goals omega
                    · have hld : decide (e.f3 < f'.f2) = false := decide_eq_false hlt
                      have HN2 := HN1 (by rw [hbad,hld,Bool.and_false,Bool.false_and,Bool.false_and])
                      refine quiet_reg C hC0 hCb (by kernel_rfl) ?_
                      repeat (refine WQ_step (fun K hK => ?_);go_simp;first | (refine hK _ ?_;clear hK K) | (apply Exists.intro;refine ⟨fun W hW => ?_,hK _ ?_⟩;(first | rfl | exact ⟨rfl,rfl⟩ | (obtain ⟨q0,q1,q2,q3,q4,q5,q6,q7,q8,q9,q10,q11,q12,q13,q14,q15⟩ := hfac W hW;first | (go_simp;done) | (go_simp;rfl) | (go_simp;exact ⟨rfl,rfl⟩) | exact (hcm W).mono (by rintro e_ w_ ⟨rfl,hb_⟩;exact ⟨rfl,hCb W w_ hW hb_⟩)));clear hK K))
                      refine WQ_nil ?_
                      intro W7 hW7
                      rw [HCd.out] at hW7
                      obtain ⟨HB7,HT7,HZ7,HY7⟩ := hW7
                      go_wp2_with fail
                      go_roundg (l.length - (j + 1))
                      case rel => exact ⟨j + 1,by first | rfl | exact congrArg _ hjw | (simp [hjw]),by omega,by omega,HN2,HB7,HT7,HZ7⟩
                      all_goals omega
                  · obtain rfl : j = l.length := by omega
                    have hjd : decide ((l.length : Int) < (l.length : Int)) = false := decide_eq_false (by omega)
                    have HG2 : Hid (∀ m,m < i + 1 → goodI l at_ m) := Lib.hid (fun m hm => by
                      rcases Nat.lt_or_ge m i with h1 | h1
                      · exact HG.out m h1
                      · obtain rfl : m = i := by omega
                        exact ⟨hout',HN.out⟩)
                    go_wp2_with fail
                    go_roundg (l.length - (i + 1))
                    case rel => exact ⟨i + 1,by first | rfl | exact congrArg _ hiw | (simp [hiw]),by omega,by omega,HG2,HB,HT⟩
                    all_goals omega
              · have hm' : mustE e = false := by simpa using hm
                clear hm
                have hm := hm'
                clear hm'
                go_upto_region 14 with (go_at_call 117;refine (evMust e A11 c11 _).mono ?_;rintro e_ w4 ⟨rfl,hb4⟩;rw [hm];have HB4 := Lib.hid (below_step HB.out hb4);have HT4 := Lib.hid (blk_below HT.out hb4);have HZ4 := Lib.hid (blk_below HZ.out hb4);have t4 := at_cell (blk_below HT.out hb4) i (by omega);rw [← HAi.out] at t4;clear hb4)
                clear t4 HB HT HZ z0 z1 z2 z3 z4 z5 z6 z7 z8 z9 z10 z11 z12
                go_wp2_with fail
                go_loopg [75] l.length (fun gk v75 W => ∃ (j : Nat),v75 = .int .i64 (j : Int) ∧ j ≤ l.length ∧ l.length - j ≤ gk ∧ Hid (∀ m,m < j → badI l at_ i m = false) ∧ Hid (Below w.heap.size w W) ∧ Hid (W.heap[w.heap.size]? = some (.cells (atA at_) 3 (0,0))) ∧ Hid (W.heap[gE]? = some (.cells (evA e A11 c11) 128 (0,0))))
                case atStart => exact ⟨0,rfl,by omega,by omega,Lib.hid (fun m hm => by omega),HB4,HT4,HZ4⟩
                case round =>
                  clear HB4 HT4 HZ4
                  obtain ⟨j,rfl,hj1,hjk,HN,HB,HT,HZ⟩ := hrel
                  by_cases hj : j < l.length
                  · obtain ⟨f',hf'⟩ : ∃ f',f' = rd_T128 l (j : Int) := ⟨_,rfl⟩
                    obtain ⟨ad2,A12,c12,e2,x0,x1,x2,x3,x4,x5,x6,x7,x8,x9,x10,x11,x12,l12,g12⟩ := ev_at HR1.out HB.out j hj f' hf'
                    have HFf := Lib.hid hf'
                    clear l12 g12 hf'
                    cases e2
                    have hjd : decide ((j : Int) < (l.length : Int)) = true := decide_eq_true (by omega)
                    have hjw : IntKind.i64.wrap ((j : Int) + 1) = (j : Int) + 1 := by rw [IntKind.wrap_i64];omega
                    obtain ⟨aj,haj⟩ : ∃ aj,aj = at_.getD j 0 := ⟨_,rfl⟩
                    have HAj := Lib.hid haj
                    clear haj
                    go_upto_region 17 with (fail)
                    refine find.settle (p := fun W => Code.wp _ _ _ _ W) (R := fun W => Hid (Below w.heap.size w W) ∧ Hid (W.heap[w.heap.size]? = some (.cells (atA at_) 3 (0,0))) ∧ Hid (W.heap[gE]? = some (.cells (evA e A11 c11) 128 (0,0))) ∧ Hid (W.heap[wr.heap.size]? = some (.cells (evA f' A12 c12) 128 (0,0)))) ⟨Lib.hid (below_alloc HB.out _),Lib.hid (blk_alloc HT.out _),Lib.hid (blk_alloc HZ.out _),Lib.hid (heap_alloc_new _ _)⟩ ?_
                    clear HB HT HZ x0 x1 x2 x3 x4 x5 x6 x7 x8 x9 x10 x11 x12
                    rintro w5 ⟨HB5,HT5,HZ5,HY5⟩
                    generalize wr.heap.size = gF at *
                    have HN1 : badI l at_ i j = false → Hid (∀ m,m < j + 1 → badI l at_ i m = false) := fun h => Lib.hid (fun m hm => by
                      rcases Nat.lt_or_ge m j with h1 | h1
                      · exact HN.out m h1
                      · obtain rfl : m = j := by omega
                        exact h)
                    have hbad : badI l at_ i j = (mustE e && decide (e.f3 < f'.f2) && decide (0 < aj) && decide (aj < ai)) := by unfold badI;rw [HAj.out,HAi.out,HE.out,HFf.out]
                    obtain ⟨C,hCd⟩ : ∃ C : World → Prop,C = fun W => Hid (Below w.heap.size w W) ∧ Hid (W.heap[w.heap.size]? = some (.cells (atA at_) 3 (0,0))) ∧ Hid (W.heap[gE]? = some (.cells (evA e A11 c11) 128 (0,0))) ∧ Hid (W.heap[gF]? = some (.cells (evA f' A12 c12) 128 (0,0))) := ⟨_,rfl⟩
                    have hC0 : C w5 := by rw [hCd];exact ⟨HB5,HT5,HZ5,HY5⟩
                    have hCb : ∀ W W',C W → Below W.heap.size W W' → C W' := by rw [hCd];rintro W W' ⟨h1,h2,h3,h4⟩ hb;exact ⟨Lib.hid (below_step h1.out hb),Lib.hid (blk_below h2.out hb),Lib.hid (blk_below h3.out hb),Lib.hid (blk_below h4.out hb)⟩
                    have hfac : ∀ W,C W → W.cell? ⟨gE,0,none⟩ = some (.int .i64 e.f0) ∧ W.cell? ⟨gE,1,none⟩ = some (.int .u8 e.f1.f0) ∧ W.cell? ⟨gE,2,none⟩ = some (.int .i64 e.f1.f1) ∧ W.cell? ⟨gE,3,none⟩ = some (.int .i64 e.f1.f2) ∧ W.cell? ⟨gE,4,none⟩ = some (.int .i64 e.f1.f3) ∧ W.cell? ⟨gE,5,none⟩ = some (.int .i64 e.f2) ∧ W.cell? ⟨gE,6,none⟩ = some (.int .i64 e.f3) ∧ W.cell? ⟨gE,7,none⟩ = some (.int .i64 e.f4.f0) ∧ W.cell? ⟨gE,8,none⟩ = some (.bool e.f4.f1) ∧ W.cell? ⟨gE,9,none⟩ = some (.int .i64 e.f4.f2) ∧ W.cell? ⟨gE,10,none⟩ = some (.int .i64 e.f4.f3) ∧ W.cell? ⟨gE,11,none⟩ = some (.slice A11 e.f4.f4.length c11) ∧ W.cell? ⟨gE,12,none⟩ = some (.bool e.f4.f5) ∧ W.cell? ⟨gF,5,none⟩ = some (.int .i64 f'.f2) ∧ W.cell? ⟨w.heap.size,i,none⟩ = some (.int .i64 ai) ∧ W.cell? ⟨w.heap.size,j,none⟩ = some (.int .i64 aj) := by rw [hCd];rintro W ⟨h1,h2,h3,h4⟩;obtain ⟨z0,z1,z2,z3,z4,z5,z6,z7,z8,z9,z10,z11,z12⟩ := ev_cells h3.out;obtain ⟨y0,y1,y2,y3,y4,y5,y6,y7,y8,y9,y10,y11,y12⟩ := ev_cells h4.out;exact ⟨z0,z1,z2,z3,z4,z5,z6,z7,z8,z9,z10,z11,z12,y5,by have := at_cell h2.out i (by omega);rwa [← HAi.out] at this,by have := at_cell h2.out j (by omega);rwa [← HAj.out] at this⟩
                    have hcm : ∀ W,Calls Try.prog 117 #[.agg (evA e A11 c11)] W fun e_ w' => e_ = .returned (.bool false) ∧ Below W.heap.size W w' := by intro W;have := evMust e A11 c11 W;rwa [hm] at this
                    have HCd := Lib.hid hCd
                    clear hCd HB5 HT5 HZ5 HY5
                    have HN2 := HN1 (by rw [hbad,hm];rfl)
                    refine quiet_reg C hC0 hCb (by kernel_rfl) ?_
                    repeat (refine WQ_step (fun K hK => ?_);go_simp;first | (refine hK _ ?_;clear hK K) | (apply Exists.intro;refine ⟨fun W hW => ?_,hK _ ?_⟩;(first | rfl | exact ⟨rfl,rfl⟩ | (obtain ⟨q0,q1,q2,q3,q4,q5,q6,q7,q8,q9,q10,q11,q12,q13,q14,q15⟩ := hfac W hW;first | (go_simp;done) | (go_simp;rfl) | (go_simp;exact ⟨rfl,rfl⟩) | exact (hcm W).mono (by rintro e_ w_ ⟨rfl,hb_⟩;exact ⟨rfl,hCb W w_ hW hb_⟩)));clear hK K))
                    refine WQ_nil ?_
                    intro W7 hW7
                    rw [HCd.out] at hW7
                    obtain ⟨HB7,HT7,HZ7,HY7⟩ := hW7
                    go_wp2_with fail
                    go_roundg (l.length - (j + 1))
                    case rel => exact ⟨j + 1,by first | rfl | exact congrArg _ hjw | (simp [hjw]),by omega,by omega,HN2,HB7,HT7,HZ7⟩
                    all_goals omega
                  · obtain rfl : j = l.length := by omega
                    have hjd : decide ((l.length : Int) < (l.length : Int)) = false := decide_eq_false (by omega)
                    have HG2 : Hid (∀ m,m < i + 1 → goodI l at_ m) := Lib.hid (fun m hm => by
                      rcases Nat.lt_or_ge m i with h1 | h1
                      · exact HG.out m h1
                      · obtain rfl : m = i := by omega
                        exact ⟨hout',HN.out⟩)
                    go_wp2_with fail
                    go_roundg (l.length - (i + 1))
                    case rel => exact ⟨i + 1,by first | rfl | exact congrArg _ hiw | (simp [hiw]),by omega,by omega,HG2,HB,HT⟩
                    all_goals omega
          · obtain rfl : i = l.length := by omega
            have hid : decide ((l.length : Int) < (l.length : Int)) = false := decide_eq_false (by omega)
            have h := H2.out
            rw [if_pos (ph2_yes l at_ HG.out)] at h
            have H3 := Lib.hid h
            clear h H2 HG
            go_upto_region 22 with (go_at_call 99;refine Calls.mono (leaf_Pair_99.calls A0 c0 l0 l0 _ (Kd.C_below HR0.out HB.out) HC0.out (by unfold leaf_Pair_99.f;rw [if_pos hl0])) ?_;rintro e_ w2 ⟨v0,rfl,hO,hb⟩;obtain ⟨Ap,cp,ep⟩ := Kd.R_slice hO;subst ep;have HP := Lib.hid (Kd.R_reads' hO).2;have HB2 := Lib.hid (below_step HB.out hb);clear hO hb)
            go_wp2_with fail
            go_loopg [113,14] order.length (fun gk v113 v14 W => ∃ (kk : Nat) (p : List S40) (Ap : Option Addr) (cp : Nat),v113 = .int .i64 (kk : Int) ∧ v14 = .slice Ap p.length cp ∧ kk ≤ order.length ∧ order.length - kk ≤ gk ∧ Hid (ph3 k l p (order.drop kk) = some r) ∧ Hid (p.length ≤ cp ∧ Kd.C k40 W Ap p.length p) ∧ Hid (Below w.heap.size w W))
            case atStart => exact ⟨0,l0,Ap,cp,rfl,rfl,by omega,by omega,by rw [List.drop_zero];exact H3,HP,HB2⟩
            case round =>
              clear H3 HP HB HB2 HT
              obtain ⟨kk,p,Ap,cp,rfl,rfl,hk1,hgk,H3,HP,HB⟩ := hrel
              by_cases hkk : kk < order.length
              · obtain ⟨ad2,e2,y0⟩ := Kd.at_int (Kd.C_below HR2.out HB.out) (kk : Int) (by omega) (by omega)
                cases e2
                rw [Int.toNat_natCast] at y0
                obtain ⟨ii,hie⟩ : ∃ ii,ii = rd order (kk : Int) := ⟨_,rfl⟩
                rw [← hie] at y0
                have hii : ii ∈ order := by rw [hie];simp [rd,hkk]
                have hdrop : order.drop kk = ii :: order.drop (kk + 1) := by
                  rw [List.drop_eq_getElem_cons hkk,hie]
                  simp [rd,hkk]
                have hkd : decide ((kk : Int) < (order.length : Int)) = true := decide_eq_true (by omega)
                have hkw : IntKind.i64.wrap ((kk : Int) + 1) = (kk : Int) + 1 := by
                  have := C_len HR2.out
                  rw [IntKind.wrap_i64];omega
                have h := H3.out
                rw [hdrop] at h
                simp only [ph3] at h
                obtain ⟨hv1,hv2⟩ := hvo ii hii
                clear H3 hdrop hie hii
                obtain ⟨j,rfl⟩ := Int.eq_ofNat_of_zero_le hv1
                rw [Int.toNat_natCast] at h
                have hj : j < l.length := by omega
                have hjc : decide ((j : Int) < (l.length : Int)) = true := decide_eq_true (by omega)
                obtain ⟨e,he⟩ : ∃ e,e = rd_T128 l (j : Int) := ⟨_,rfl⟩
                have hli : l[j]? = some e := by rw [he];simp [rd_T128,hj]
                obtain ⟨ad,A11,c11,e1,x0,x1,x2,x3,x4,x5,x6,x7,x8,x9,x10,x11,x12,l11,g11⟩ := ev_at HR1.out (Below.refl _ _) j hj e he
                have HX := Lib.hid (And.intro x0 (And.intro x1 (And.intro x2 (And.intro x3 (And.intro x4 (And.intro x5 (And.intro x6 (And.intro x7 (And.intro x8 (And.intro x9 (And.intro x10 (And.intro x11 x12))))))))))))
                have HE := Lib.hid (And.intro l11 g11)
                have tB : ∀ a v,w.cell? a = some v → wr.cell? a = some v := fun a v hx => (HB.out.cell (World.block_lt_of_cell? w _ hx)).trans hx
                have b1 := tB _ _ x1
                have b2 := tB _ _ x2
                have b3 := tB _ _ x3
                have b4 := tB _ _ x4
                clear l11 g11 he tB x0 x1 x2 x3 x4 x5 x6 x7 x8 x9 x10 x11 x12
                cases e1
                obtain ⟨xo,hxo,hr⟩ := Option.bind_eq_some_iff.1 h
                simp only [stepF,hli,stepE] at hxo
                obtain ⟨⟨a1,a2,a3,a4,a5,a6,a7⟩,ha,hxo⟩ := Option.bind_eq_some_iff.1 hxo
                dsimp only at hxo
                have hlen : a1.length < 8796093022208 := by
                  by_cases hq : a1.length < 8796093022208
                  · exact hq
                  · rw [if_neg hq] at hxo;cases hxo
                rw [if_pos hlen] at hxo
                have HXo := Lib.hid hxo
                have HRo := Lib.hid hr
                have HA := Lib.hid ha
                clear h hxo hr ha
                go_upto_region 26 with (go_at_call 74;refine Calls.mono (model_Apply.calls k Ap cp p e.f1.f0 e.f1.f1 e.f1.f2 e.f1.f3 a1 a2 a3 a4 a5 a6 a7 _ HP.out.2 HP.out.1 HA.out) ?_;rintro e_ wT ⟨v0,v5,rfl,hO1,hO2,hb⟩;obtain ⟨Ax,cx,ex⟩ := Kd.R_slice hO1;subst ex;obtain ⟨Ay,cy,ey⟩ := Kd.R_slice hO2;subst ey;have HBT := Lib.hid (below_step HB.out hb);have HPT := Lib.hid (Kd.R_reads' hO1).2;have HYT := Lib.hid (Kd.R_reads' hO2).2;clear hO1 hO2 hb)
                obtain ⟨hq1,hq2⟩ := HPT.out
                obtain ⟨hq3,hq4⟩ := HYT.out
                refine find.settle (p := fun W => Code.wp _ _ _ _ W) (R := fun W => Hid (Below w.heap.size w W) ∧ Hid (W.heap[wT.heap.size]? = some (.cells #[.int .i64 a2,.bool a3,.int .i64 a4,.int .i64 a5,.slice Ay a6.length cy,.bool a7] 84 (0,0))) ∧ Hid (a6.length ≤ cy ∧ Kd.C k40 W Ay a6.length a6) ∧ Hid (a1.length ≤ cx ∧ Kd.C k40 W Ax a1.length a1)) ⟨Lib.hid (below_alloc HBT.out _),Lib.hid (heap_alloc_new _ _),Lib.hid ⟨hq3,Kd.C_alloc hq4 _⟩,Lib.hid ⟨hq1,Kd.C_alloc hq2 _⟩⟩ ?_
                clear HB HBT HPT HYT HP hq1 hq2 hq3 hq4 b1 b2 b3 b4
                rintro w5 ⟨HB5,HT5,HY5,HP5⟩
                generalize wT.heap.size = gA at *
                obtain ⟨C,hCd⟩ : ∃ C : World → Prop,C = fun W => Hid (Below w.heap.size w W) ∧ Hid (W.heap[gA]? = some (.cells #[.int .i64 a2,.bool a3,.int .i64 a4,.int .i64 a5,.slice Ay a6.length cy,.bool a7] 84 (0,0))) ∧ Hid (a6.length ≤ cy ∧ Kd.C k40 W Ay a6.length a6) ∧ Hid (a1.length ≤ cx ∧ Kd.C k40 W Ax a1.length a1) := ⟨_,rfl⟩
                have hC0 : C w5 := by rw [hCd];exact ⟨HB5,HT5,HY5,HP5⟩
                have hCb : ∀ W W',C W → Below W.heap.size W W' → C W' := by rw [hCd];rintro W W' ⟨h1,h2,h3,h4⟩ hb;exact ⟨Lib.hid (below_step h1.out hb),Lib.hid (blk_below h2.out hb),Lib.hid ⟨h3.out.1,Kd.C_below h3.out.2 hb⟩,Lib.hid ⟨h4.out.1,Kd.C_below h4.out.2 hb⟩⟩
                have hfac : ∀ W,C W → W.cell? (ad.add (j * 13)) = some (.int .i64 e.f0) ∧ W.cell? ⟨(ad.add (j * 13)).block,(ad.add (j * 13)).off + 1,none⟩ = some (.int .u8 e.f1.f0) ∧ W.cell? ⟨(ad.add (j * 13)).block,(ad.add (j * 13)).off + 2,none⟩ = some (.int .i64 e.f1.f1) ∧ W.cell? ⟨(ad.add (j * 13)).block,(ad.add (j * 13)).off + 3,none⟩ = some (.int .i64 e.f1.f2) ∧ W.cell? ⟨(ad.add (j * 13)).block,(ad.add (j * 13)).off + 4,none⟩ = some (.int .i64 e.f1.f3) ∧ W.cell? ⟨(ad.add (j * 13)).block,(ad.add (j * 13)).off + 5,none⟩ = some (.int .i64 e.f2) ∧ W.cell? ⟨(ad.add (j * 13)).block,(ad.add (j * 13)).off + 6,none⟩ = some (.int .i64 e.f3) ∧ W.cell? ⟨(ad.add (j * 13)).block,(ad.add (j * 13)).off + 7,none⟩ = some (.int .i64 e.f4.f0) ∧ W.cell? ⟨(ad.add (j * 13)).block,(ad.add (j * 13)).off + 8,none⟩ = some (.bool e.f4.f1) ∧ W.cell? ⟨(ad.add (j * 13)).block,(ad.add (j * 13)).off + 9,none⟩ = some (.int .i64 e.f4.f2) ∧ W.cell? ⟨(ad.add (j * 13)).block,(ad.add (j * 13)).off + 10,none⟩ = some (.int .i64 e.f4.f3) ∧ W.cell? ⟨(ad.add (j * 13)).block,(ad.add (j * 13)).off + 11,none⟩ = some (.slice A11 e.f4.f4.length c11) ∧ W.cell? ⟨(ad.add (j * 13)).block,(ad.add (j * 13)).off + 12,none⟩ = some (.bool e.f4.f5) ∧ W.cell? ⟨gA,0,none⟩ = some (.int .i64 a2) ∧ W.cell? ⟨gA,1,none⟩ = some (.bool a3) ∧ W.cell? ⟨gA,2,none⟩ = some (.int .i64 a4) ∧ W.cell? ⟨gA,3,none⟩ = some (.int .i64 a5) ∧ W.cell? ⟨gA,4,none⟩ = some (.slice Ay a6.length cy) ∧ W.cell? ⟨gA,5,none⟩ = some (.bool a7) := by rw [hCd];rintro W ⟨h1,h2,h3,h4⟩;obtain ⟨x0,x1,x2,x3,x4,x5,x6,x7,x8,x9,x10,x11,x12⟩ := HX.out;have t : ∀ a v,w.cell? a = some v → W.cell? a = some v := fun a v hx => (h1.out.cell (World.block_lt_of_cell? w _ hx)).trans hx;exact ⟨t _ _ x0,t _ _ x1,t _ _ x2,t _ _ x3,t _ _ x4,t _ _ x5,t _ _ x6,t _ _ x7,t _ _ x8,t _ _ x9,t _ _ x10,t _ _ x11,t _ _ x12,(blk_cell h2.out 0).trans rfl,(blk_cell h2.out 1).trans rfl,(blk_cell h2.out 2).trans rfl,(blk_cell h2.out 3).trans rfl,(blk_cell h2.out 4).trans rfl,(blk_cell h2.out 5).trans rfl⟩
                have hcs0 : ∀ s,model_Same.f k a2 a3 a4 a5 a6 a7 e.f4.f0 e.f4.f1 e.f4.f2 e.f4.f3 e.f4.f4 e.f4.f5 = some s → ∀ W,C W → Calls Try.prog 81 #[.agg #[.int .i64 a2,.bool a3,.int .i64 a4,.int .i64 a5,.slice Ay a6.length cy,.bool a7],.agg #[.int .i64 e.f4.f0,.bool e.f4.f1,.int .i64 e.f4.f2,.int .i64 e.f4.f3,.slice A11 e.f4.f4.length c11,.bool e.f4.f5]] W fun e_ w' => e_ = .returned (.bool s) ∧ Below W.heap.size W w' := by rw [hCd];rintro s hs W ⟨h1,h2,h3,h4⟩;exact model_Same.calls k a2 a3 a4 a5 Ay cy a6 a7 e.f4.f0 e.f4.f1 e.f4.f2 e.f4.f3 A11 c11 e.f4.f4 e.f4.f5 s W h3.out.2 h3.out.1 (Kd.C_below HE.out.2 h1.out) HE.out.1 hs
                have HCd := Lib.hid hCd
                clear hCd HB5 HT5 HY5 HP5
                have hxo := HXo.out
                have hr := HRo.out
                clear HXo HRo
                by_cases h0 : 0 ≤ e.f3
                · have hcm : ∀ W,Calls Try.prog 96 #[.agg (evA e A11 c11)] W fun e_ w' => e_ = .returned (.bool true) ∧ Below W.heap.size W w' := by intro W;have := evAns e A11 c11 W;rwa [decide_eq_true h0] at this
                  rw [if_pos h0] at hxo
                  obtain ⟨sm,hsm,hxo⟩ := Option.bind_eq_some_iff.1 hxo
                  have hcs := hcs0 sm hsm
                  obtain rfl := Option.some.inj hxo
                  clear hsm hxo hcs0
                  cases sm with
                  | false =>
                    simp only [Bool.false_eq_true,if_false] at hr
                    obtain rfl := Option.some.inj hr
                    clear hr
                    refine quiet_reg C hC0 hCb (by kernel_rfl) ?_
                    repeat (refine WQ_step (fun K hK => ?_);go_simp;first | (refine hK _ ?_;clear hK K) | (apply Exists.intro;refine ⟨fun W hW => ?_,hK _ ?_⟩;(first | rfl | exact ⟨rfl,rfl⟩ | (obtain ⟨q0,q1,q2,q3,q4,q5,q6,q7,q8,q9,q10,q11,q12,q13,q14,q15,q16,q17,q18⟩ := hfac W hW;first | (go_simp;done) | (go_simp;rfl) | (go_simp;exact ⟨rfl,rfl⟩) | exact (hcm W).mono (by rintro e_ w_ ⟨rfl,hb_⟩;exact ⟨rfl,hCb W w_ hW hb_⟩) | exact (hcs W hW).mono (by rintro e_ w_ ⟨rfl,hb_⟩;exact ⟨rfl,hCb W w_ hW hb_⟩)));clear hK K))
                    refine WQ_nil ?_
                    intro W7 hW7
                    rw [HCd.out] at hW7
                    obtain ⟨HB7,HT7,HY7,HP7⟩ := hW7
                    go_wp2_with fail
                    go_ret
                    exact ⟨rfl,HB7.out⟩
                  | true =>
                    simp only [if_true] at hr
                    have HG1 := Lib.hid hr
                    clear hr
                    refine quiet_reg C hC0 hCb (by kernel_rfl) ?_
                    repeat (refine WQ_step (fun K hK => ?_);go_simp;first | (refine hK _ ?_;clear hK K) | (apply Exists.intro;refine ⟨fun W hW => ?_,hK _ ?_⟩;(first | rfl | exact ⟨rfl,rfl⟩ | (obtain ⟨q0,q1,q2,q3,q4,q5,q6,q7,q8,q9,q10,q11,q12,q13,q14,q15,q16,q17,q18⟩ := hfac W hW;first | (go_simp;done) | (go_simp;rfl) | (go_simp;exact ⟨rfl,rfl⟩) | exact (hcm W).mono (by rintro e_ w_ ⟨rfl,hb_⟩;exact ⟨rfl,hCb W w_ hW hb_⟩) | exact (hcs W hW).mono (by rintro e_ w_ ⟨rfl,hb_⟩;exact ⟨rfl,hCb W w_ hW hb_⟩)));clear hK K))
                    refine WQ_nil ?_
                    intro W7 hW7
                    rw [HCd.out] at hW7
                    obtain ⟨HB7,HT7,HY7,HP7⟩ := hW7
                    go_wp2_with fail
                    go_roundg (order.length - (kk + 1))
                    case rel => exact ⟨kk + 1,a1,Ax,cx,by first | rfl | exact congrArg _ hkw | (simp [hkw]),rfl,by omega,by omega,HG1,HP7,HB7⟩
                    all_goals omega
                · have hcm : ∀ W,Calls Try.prog 96 #[.agg (evA e A11 c11)] W fun e_ w' => e_ = .returned (.bool false) ∧ Below W.heap.size W w' := by intro W;have := evAns e A11 c11 W;rwa [decide_eq_false h0] at this
                  have hcs : True := trivial
                  rw [if_neg h0] at hxo
                  obtain rfl := Option.some.inj hxo
                  dsimp only at hr
                  have HG1 := Lib.hid hr
                  clear hr hxo hcs0
                  refine quiet_reg C hC0 hCb (by kernel_rfl) ?_
                  repeat (refine WQ_step (fun K hK => ?_);go_simp;first | (refine hK _ ?_;clear hK K) | (apply Exists.intro;refine ⟨fun W hW => ?_,hK _ ?_⟩;(first | rfl | exact ⟨rfl,rfl⟩ | (obtain ⟨q0,q1,q2,q3,q4,q5,q6,q7,q8,q9,q10,q11,q12,q13,q14,q15,q16,q17,q18⟩ := hfac W hW;first | (go_simp;done) | (go_simp;rfl) | (go_simp;exact ⟨rfl,rfl⟩) | exact (hcm W).mono (by rintro e_ w_ ⟨rfl,hb_⟩;exact ⟨rfl,hCb W w_ hW hb_⟩) | exact (hcs W hW).mono (by rintro e_ w_ ⟨rfl,hb_⟩;exact ⟨rfl,hCb W w_ hW hb_⟩)));clear hK K))
                  refine WQ_nil ?_
                  intro W7 hW7
                  rw [HCd.out] at hW7
                  obtain ⟨HB7,HT7,HY7,HP7⟩ := hW7
                  go_wp2_with fail
                  go_roundg (order.length - (kk + 1))
                  case rel => exact ⟨kk + 1,a1,Ax,cx,by first | rfl | exact congrArg _ hkw | (simp [hkw]),rfl,by omega,by omega,HG1,HP7,HB7⟩
                  all_goals omega
              · obtain rfl : kk = order.length := by omega
                have hkd : decide ((order.length : Int) < (order.length : Int)) = false := decide_eq_false (by omega)
                have h := H3.out
                rw [List.drop_length] at h
                simp only [ph3] at h
                obtain rfl := Option.some.inj h
                clear h H3
                go_wp2_with fail
                go_ret
                exact ⟨rfl,HB.out⟩
  · rw [if_neg hlim] at h
    cases h
end Go.Proofs.Ytkoiffkonjpoiaa.Q
namespace Go.Proofs.Ytkoiffkonjpoiaa.Q
open Go.RowKit Go.Proofs.YtkoiffkonjpoiaaW.PrintWords Go.Proofs.YtkoiffkonjpoiaaW.PrintLast Go.Proofs.YtkoiffkonjpoiaaW.PrintMore Go.Proofs.YtkoiffkonjpoiaaX
attribute [local go_sem] max2_int min2_int max_two min_two max_three min_three max_four min_four
set_option linter.unusedVariables false
set_option linter.unusedSimpArgs false
def isIn (order : List Int) (i : Nat) : Bool := order.any fun x => x == (i : Int)
def wholeI (l : List S128) (order : List Int) (i : Nat) : Bool := !(mustE (rd_T128 l (i : Int)) && !isIn order i)
def Whole.f (l : List S128) (order : List Int) : Bool := (List.range l.length).all (wholeI l order)
set_option maxHeartbeats 8000000 in
set_option maxRecDepth 100000 in
theorem Whole.calls (A1 : Option Addr) (c1 : Nat) (l : List S128) (A2 : Option Addr) (c2 : Nat) (order : List Int) (w : World) (hr1 : Kd.C k128 w A1 l.length l) (hc1 : l.length ≤ c1) (hr2 : Kd.C (Kd.int .i64) w A2 order.length order) (hc2 : order.length ≤ c2) :
    Calls Try.prog 91 #[.slice A1 l.length c1,.slice A2 order.length c2] w fun e w' => e = .returned (.bool (Whole.f l order)) ∧ Below w.heap.size w w' := by
  have hu128 := Try.underlying128
  have HR1 := Lib.hid hr1
  have HC1 := Lib.hid hc1
  have HR2 := Lib.hid hr2
  have HC2 := Lib.hid hc2
  have hl1 := hr1.2.1
  clear hr1 hc1 hr2 hc2
  obtain ⟨r,hr⟩ : ∃ r,r = Whole.f l order := ⟨_,rfl⟩
  rw [← hr]
  have HRr := Lib.hid hr
  clear hr
  go_enter Try.func91,Try.ntmps91
  go_wp2_with fail
  go_loopg [12] l.length (fun gk v12 W => ∃ (i : Nat),v12 = .int .i64 (i : Int) ∧ i ≤ l.length ∧ l.length - i ≤ gk ∧ Hid (∀ m,m < i → wholeI l order m = true) ∧ Hid (Below w.heap.size w W))
  case atStart => exact ⟨0,rfl,by omega,by omega,Lib.hid (fun m hm => by omega),Lib.hid (Below.refl _ _)⟩
  case round =>
    obtain ⟨i,rfl,hi1,hik,HG,HB⟩ := hrel
    by_cases hi : i < l.length
    · obtain ⟨e,he⟩ : ∃ e,e = rd_T128 l (i : Int) := ⟨_,rfl⟩
      obtain ⟨ad,A11,c11,e1,x0,x1,x2,x3,x4,x5,x6,x7,x8,x9,x10,x11,x12,l11,g11⟩ := ev_at HR1.out HB.out i hi e he
      have HE := Lib.hid he
      clear l11 g11 he
      cases e1
      have hid : decide ((i : Int) < (l.length : Int)) = true := decide_eq_true (by omega)
      have hiw : IntKind.i64.wrap ((i : Int) + 1) = (i : Int) + 1 := by rw [IntKind.wrap_i64];omega
      go_upto_region 4 with (fail)
      refine find.settle (p := fun W => Code.wp _ _ _ _ W) (R := fun W => Hid (Below w.heap.size w W) ∧ Hid (W.heap[wr.heap.size]? = some (.cells (evA e A11 c11) 128 (0,0)))) ⟨Lib.hid (below_alloc HB.out _),Lib.hid (heap_alloc_new _ _)⟩ ?_
      clear HB x0 x1 x2 x3 x4 x5 x6 x7 x8 x9 x10 x11 x12
      rintro w3 ⟨HB,HZ⟩
      generalize wr.heap.size = gE at *
      go_wp2_with fail
      go_loopg [19,7] order.length (fun gk v19 v7 W => ∃ (j : Nat),v19 = .int .i64 (j : Int) ∧ v7 = .bool (isIn (order.take j) i) ∧ j ≤ order.length ∧ order.length - j ≤ gk ∧ Hid (Below w.heap.size w W) ∧ Hid (W.heap[gE]? = some (.cells (evA e A11 c11) 128 (0,0))))
      case atStart => exact ⟨0,rfl,rfl,by omega,by omega,HB,HZ⟩
      case round =>
        clear HB HZ
        obtain ⟨j,rfl,rfl,hj1,hjk,HB,HZ⟩ := hrel
        by_cases hj : j < order.length
        · obtain ⟨ad2,e2,y0⟩ := Kd.at_int (Kd.C_below HR2.out HB.out) (j : Int) (by omega) (by omega)
          cases e2
          rw [Int.toNat_natCast] at y0
          obtain ⟨x,hx⟩ : ∃ x,x = rd order (j : Int) := ⟨_,rfl⟩
          rw [← hx] at y0
          have hnext : isIn (order.take (j + 1)) i = (isIn (order.take j) i || x == (i : Int)) := by
            rw [hx]
            unfold isIn
            rw [List.take_add_one,List.getElem?_eq_getElem hj,List.any_append]
            simp [rd,hj]
          have HN := Lib.hid hnext
          clear hnext hx
          have hjd : decide ((j : Int) < (order.length : Int)) = true := decide_eq_true (by omega)
          have hjw : IntKind.i64.wrap ((j : Int) + 1) = (j : Int) + 1 := by
            have := C_len HR2.out
            rw [IntKind.wrap_i64];omega
          obtain ⟨b,hb⟩ : ∃ b,b = isIn (order.take j) i := ⟨_,rfl⟩
          rw [← hb] at HN
          rw [← hb]
          clear hb
          cases b with
          | true =>
            go_wp2_with fail
            go_roundg (order.length - (j + 1))
            case rel => exact ⟨j + 1,by first | rfl | exact congrArg _ hjw | (simp [hjw]),by rw [HN.out];first | rfl | simp,by omega,by omega,HB,HZ⟩
            all_goals omega
          | false =>
            go_wp2_with fail
            go_roundg (order.length - (j + 1))
            case rel => exact ⟨j + 1,by first | rfl | exact congrArg _ hjw | (simp [hjw]),by rw [HN.out];first | rfl | simp,by omega,by omega,HB,HZ⟩
            all_goals omega
        · obtain rfl : j = order.length := by omega
          have hjd : decide ((order.length : Int) < (order.length : Int)) = false := decide_eq_false (by omega)
          have hwi : wholeI l order i = !(mustE e && !isIn (order.take order.length) i) := by unfold wholeI;rw [List.take_length,HE.out]
          have HW := Lib.hid hwi
          clear hwi
          obtain ⟨b,hb⟩ : ∃ b,b = isIn (order.take order.length) i := ⟨_,rfl⟩
          rw [← hb] at HW
          rw [← hb]
          clear hb
          obtain ⟨z0,z1,z2,z3,z4,z5,z6,z7,z8,z9,z10,z11,z12⟩ := ev_cells HZ.out
          have hnextG : wholeI l order i = true → Hid (∀ m,m < i + 1 → wholeI l order m = true) := fun h => Lib.hid (fun m hm => by
            rcases Nat.lt_or_ge m i with h1 | h1
            · exact HG.out m h1
            · obtain rfl : m = i := by omega
              exact h)
          by_cases hm : mustE e = true
          · cases b with
            | true =>
              have HG2 := hnextG (by rw [HW.out,hm];rfl)
              go_wp2_with (go_at_call 119;refine (lawMust e A11 c11 _).mono ?_;rintro e_ w4 ⟨rfl,hb4⟩;rw [hm];have HB4 := Lib.hid (below_step HB.out hb4);clear hb4)
              go_roundg (l.length - (i + 1))
              case rel => exact ⟨i + 1,by first | rfl | exact congrArg _ hiw | (simp [hiw]),by omega,by omega,HG2,HB4⟩
              all_goals omega
            | false =>
              have hf : r = false := by
                rw [HRr.out]
                cases hq : Whole.f l order with
                | false => rfl
                | true =>
                  have := List.all_eq_true.1 hq i (List.mem_range.2 hi)
                  rw [HW.out,hm] at this
                  cases this
              subst hf
              go_wp2_with (go_at_call 119;refine (lawMust e A11 c11 _).mono ?_;rintro e_ w4 ⟨rfl,hb4⟩;rw [hm];have HB4 := Lib.hid (below_step HB.out hb4);clear hb4)
              go_ret
              exact ⟨rfl,HB4.out⟩
          · have hm' : mustE e = false := by simpa using hm
            have HG2 := hnextG (by rw [HW.out,hm'];rfl)
            go_wp2_with (go_at_call 119;refine (lawMust e A11 c11 _).mono ?_;rintro e_ w4 ⟨rfl,hb4⟩;rw [hm'];have HB4 := Lib.hid (below_step HB.out hb4);clear hb4)
            go_roundg (l.length - (i + 1))
            case rel => exact ⟨i + 1,by first | rfl | exact congrArg _ hiw | (simp [hiw]),by omega,by omega,HG2,HB4⟩
            all_goals omega
    · obtain rfl : i = l.length := by omega
      have hid : decide ((l.length : Int) < (l.length : Int)) = false := decide_eq_false (by omega)
      have ht : r = true := by
        rw [HRr.out]
        exact List.all_eq_true.2 (fun i hi => HG.out i (List.mem_range.1 hi))
      subst ht
      go_wp2_with fail
      go_ret
      exact ⟨rfl,HB.out⟩
end Go.Proofs.Ytkoiffkonjpoiaa.Q
namespace Go.Proofs.Ytkoiffkonjpoiaa.Q
open Go.RowKit Go.Proofs.YtkoiffkonjpoiaaW.PrintWords Go.Proofs.YtkoiffkonjpoiaaW.PrintLast Go.Proofs.YtkoiffkonjpoiaaW.PrintMore Go.Proofs.YtkoiffkonjpoiaaX
attribute [local go_sem] max2_int min2_int max_two min_two max_three min_three max_four min_four
set_option linter.unusedVariables false
set_option linter.unusedSimpArgs false
/-- Whether there is an order, and the first one. -/
def Order.f (k : Nat) (l0 : List S40) (l : List S128) : Option (Bool × List Nat) :=
  if 62 < l.length then some (false,[]) else if l0.length < 8796093022208 then (find.f k l 100 0 l0 [] []).bind fun r => some (r.1,if r.1 = true then r.2.2 else []) else none
/-- The numbers below i of those that must be in an order. -/
def upM (l : List S128) (i : Nat) : Nat := Srch.mask ((List.range i).filter fun j => match l[j]? with | some e => mustE e | none => false)
theorem upM_succ (l : List S128) {i : Nat} {e : S128} (h : l[i]? = some e) : upM l (i + 1) = if mustE e = true then upM l i ||| 1 <<< i else upM l i := by
  unfold upM
  rw [List.range_succ,List.filter_append]
  cases hm : mustE e with
  | true => rw [List.filter_cons_of_pos (by rw [h];exact hm)];simp [Srch.mask_snoc]
  | false => rw [List.filter_cons_of_neg (by rw [h];simp [hm])];simp
theorem upM_lt (l : List S128) {i : Nat} (hi : i ≤ 62) : upM l i < 18446744073709551616 :=
  Nat.lt_of_lt_of_le (mask_lt 62 _ (fun j hj => by have := List.mem_range.1 (List.mem_filter.1 hj).1;omega)) (by decide)
theorem blk_alloc_map {W : World} {g : Nat} {es : Array MapEntry} {cl : Nat} {o : Obj} (h : W.heap[g]? = some (.map es cl)) : (W.alloc o).heap[g]? = some (.map es cl) :=
  ((below_alloc (Below.refl W.heap.size W) o).block g (Array.getElem?_eq_some_iff.1 h).1).trans h
def Linear.f (k : Nat) (l0 : List S40) (l : List S128) : Option Bool := (Order.f k l0 l).bind fun r => some r.1
set_option maxHeartbeats 8000000 in
set_option maxRecDepth 100000 in
theorem Order.calls (k : Nat) (A0 : Option Addr) (c0 : Nat) (l0 : List S40) (A1 : Option Addr) (c1 : Nat) (l : List S128) (b : Bool) (so : List Nat) (w : World) (hr0 : Kd.C k40 w A0 l0.length l0) (hc0 : l0.length ≤ c0) (hr1 : Kd.C k128 w A1 l.length l) (hc1 : l.length ≤ c1) (h : Order.f k l0 l = some (b,so)) :
    Calls Try.prog 92 #[.slice A0 l0.length c0,.slice A1 l.length c1] w fun e w' => ∃ v0,e = .returned (.tuple #[v0,.bool b]) ∧ Kd.R (Kd.int .i64) 3 w' w.heap.size (fun _ => True) v0 (toI so) ∧ Below w.heap.size w w' := by
  have hu128 := Try.underlying128
  have hu155 := Try.underlying155
  have hmm := @run_makeMap Try.prog
  have HR0 := Lib.hid hr0
  have HC0 := Lib.hid hc0
  have HR1 := Lib.hid hr1
  have HC1 := Lib.hid hc1
  clear hr0 hc0 hr1 hc1
  unfold Order.f at h
  by_cases hn : 62 < l.length
  · rw [if_pos hn] at h
    obtain ⟨rfl,rfl⟩ := Prod.mk.inj (Option.some.inj h)
    clear h
    have hd : decide (62 < (l.length : Int)) = true := decide_eq_true (by omega)
    have hd' : decide (62 < l.length) = true := decide_eq_true hn
    clear hn
    go_enter Try.func92,Try.ntmps92
    go_wp2_with fail
    go_ret2
    exact ⟨_,rfl,Kd.R_nil _ _ _ _ _,Below.refl _ _⟩
  · rw [if_neg hn] at h
    by_cases hl0 : l0.length < 8796093022208
    · rw [if_pos hl0] at h
      obtain ⟨⟨rb,rs,rso⟩,hf,h⟩ := Option.bind_eq_some_iff.1 h
      have HFi := Lib.hid hf
      obtain ⟨rfl,hso⟩ := Prod.mk.inj (Option.some.inj h)
      clear h hf
      have hd : decide (62 < (l.length : Int)) = false := decide_eq_false (by omega)
      have hd' : decide (62 < l.length) = false := decide_eq_false hn
      have hn' : l.length ≤ 62 := by omega
      go_enter Try.func92,Try.ntmps92
      go_upto_region 4 with (fail)
      obtain ⟨g,hg⟩ : ∃ g,g = w.heap.size + 1 := ⟨_,rfl⟩
      have hsz : (w.alloc (.map #[] 0)).heap.size = w.heap.size + 1 := Array.size_push _
      have hx0 := heap_alloc_new (w.alloc (.map #[] 0)) (.cells #[.slice A1 l.length c1,.int .u64 0,.map (some w.heap.size),.slice none 0 0] 155)
      rw [hsz,← hg] at hx0
      rw [← hg]
      refine find.settle (p := fun W => Code.wp _ _ _ _ W) (R := fun W => Hid (Below w.heap.size w W) ∧ Hid (W.heap[g]? = some (.cells (srA A1 l.length c1 (upM l 0) w.heap.size (.slice none 0 0)) 155 (0,0))) ∧ Hid (SeenAt W w.heap.size [])) ⟨Lib.hid (below_alloc (below_alloc (Below.refl _ _) _) _),Lib.hid hx0,Lib.hid ⟨fun _ h => by simp at h,#[],0,blk_alloc_map (heap_alloc_new w (.map #[] 0)),rfl⟩⟩ ?_
      rintro w1 ⟨HB,HX,HS⟩
      have hg0 : w.heap.size ≤ g := by omega
      have hm0 : w.heap.size ≤ w.heap.size := Nat.le_refl _
      have hne : g ≠ w.heap.size := by omega
      clear hx0 hsz hg hmm
      go_wp2_with fail
      go_loopg [18] l.length (fun gk v18 W => ∃ (i : Nat),v18 = .int .i64 (i : Int) ∧ i ≤ l.length ∧ l.length - i ≤ gk ∧ Hid (Below w.heap.size w W) ∧ Hid (W.heap[g]? = some (.cells (srA A1 l.length c1 (upM l i) w.heap.size (.slice none 0 0)) 155 (0,0))) ∧ Hid (SeenAt W w.heap.size []))
      case atStart => exact ⟨0,rfl,by omega,by omega,HB,HX,HS⟩
      case round =>
        clear HB HX HS
        obtain ⟨i,rfl,hi1,hgk,HB,HX,HS⟩ := hrel
        by_cases hi : i < l.length
        · obtain ⟨e,he⟩ : ∃ e,e = rd_T128 l (i : Int) := ⟨_,rfl⟩
          have hli : l[i]? = some e := by rw [he];simp [rd_T128,hi]
          obtain ⟨ad,A11,c11,e1,x0,x1,x2,x3,x4,x5,x6,x7,x8,x9,x10,x11,x12,l11,g11⟩ := ev_at HR1.out HB.out i hi e he
          clear l11 g11 he
          cases e1
          have hid : decide ((i : Int) < (l.length : Int)) = true := decide_eq_true (by omega)
          have hiw : IntKind.i64.wrap ((i : Int) + 1) = (i : Int) + 1 := by rw [IntKind.wrap_i64];omega
          have hup := upM_succ l hli
          go_upto_region 7 with (fail)
          refine find.settle (p := fun W => Code.wp _ _ _ _ W) (R := fun W => Hid (Below w.heap.size w W) ∧ Hid (W.heap[g]? = some (.cells (srA (some ad) l.length c1 (upM l i) w.heap.size (.slice none 0 0)) 155 (0,0))) ∧ Hid (SeenAt W w.heap.size []) ∧ Hid (W.heap[wr.heap.size]? = some (.cells (evA e A11 c11) 128 (0,0)))) ⟨Lib.hid (below_alloc HB.out _),Lib.hid (blk_alloc HX.out _),Lib.hid (HS.out.keep ((below_alloc (Below.refl wr.heap.size wr) _).block _ (seen_lt HS.out))),Lib.hid (heap_alloc_new _ _)⟩ ?_
          clear HB HX HS x0 x1 x2 x3 x4 x5 x6 x7 x8 x9 x10 x11 x12
          rintro w3 ⟨HB3,HX3,HS3,HZ3⟩
          obtain ⟨z0,z1,z2,z3,z4,z5,z6,z7,z8,z9,z10,z11,z12⟩ := ev_cells HZ3.out
          by_cases hm : mustE e = true
          · rw [if_pos hm] at hup
            have hor := or_at (upM l i) i (upM_lt l (by omega)) (by omega)
            rw [← hup] at hor
            go_upto_region 8 with (go_at_call 117;refine (evMust e A11 c11 _).mono ?_;rintro e_ w4 ⟨rfl,hb4⟩;rw [hm];have HB4 := Lib.hid (below_step HB3.out hb4);have HX4 := Lib.hid (blk_below HX3.out hb4);have HS4 := Lib.hid (HS3.out.keep (hb4.block _ (seen_lt HS3.out)));clear hb4)
            refine drawn_tail 9 (by kernel_rfl) ?_
            intro W hW hBW
            have HB5 := Lib.hid (below_step HB4.out hBW)
            have HX5 := Lib.hid (blk_below HX4.out hBW)
            have HS5 := Lib.hid (HS4.out.keep (hBW.block _ (seen_lt HS4.out)))
            have g1 : W.cell? ⟨g,1,none⟩ = some (.int .u64 (upM l i : Int)) := (blk_cell HX5.out 1).trans rfl
            have g1f := blk_frozen HX5.out 1
            clear hW hBW HB4 HX4 HS4 hup
            simp only [List.take_succ_cons,List.take_zero,List.drop_succ_cons,List.drop_zero]
            repeat still_step
            refine wpStill_nil ?_
            have HB6 : Hid (Below w.heap.size w (W.setCell ⟨g,1,none⟩ (.int .u64 (upM l (i + 1) : Int)))) := Lib.hid (below_set HB5.out hg0)
            have HX6 : Hid ((W.setCell ⟨g,1,none⟩ (.int .u64 (upM l (i + 1) : Int))).heap[g]? = some (.cells (srA (some ad) l.length c1 (upM l (i + 1)) w.heap.size (.slice none 0 0)) 155 (0,0))) := Lib.hid (blk_put HX5.out 1 _ rfl)
            have HS6 : Hid (SeenAt (W.setCell ⟨g,1,none⟩ (.int .u64 (upM l (i + 1) : Int))) w.heap.size []) := Lib.hid (HS5.out.keep (Below.heap_setCell W ⟨g,1,none⟩ _ w.heap.size (Ne.symm hne)))
            go_wp2_with fail
            go_roundg (l.length - (i + 1))
            case rel => exact ⟨i + 1,by first | rfl | exact congrArg _ hiw | (simp [hiw]),by omega,by omega,HB6,HX6,HS6⟩
            all_goals omega
          · have hm' : mustE e = false := by simpa using hm
            rw [if_neg hm] at hup
            go_wp2_with (go_at_call 117;refine (evMust e A11 c11 _).mono ?_;rintro e_ w4 ⟨rfl,hb4⟩;rw [hm'];have HB4 := Lib.hid (below_step HB3.out hb4);have HX4 := Lib.hid (blk_below HX3.out hb4);have HS4 := Lib.hid (HS3.out.keep (hb4.block _ (seen_lt HS3.out)));clear hb4)
            go_roundg (l.length - (i + 1))
            case rel => exact ⟨i + 1,by first | rfl | exact congrArg _ hiw | (simp [hiw]),by omega,by omega,HB4,Lib.hid (by rw [hup];exact HX4.out),HS4⟩
            all_goals omega
        · obtain rfl : i = l.length := by omega
          have hid : decide ((l.length : Int) < (l.length : Int)) = false := decide_eq_false (by omega)
          have HV : Hid (Kd.V k40 40 wr 0 (fun b => b < w.heap.size) (.slice A0 l0.length c0) l0) := Lib.hid (Kd.V_mk HC0.out (Kd.F_below (Kd.C_F k40_heap HR0.out) HB.out))
          have HO : Hid (Kd.R (Kd.int .i64) 3 wr w.heap.size (fun _ => False) (.slice none 0 0) (toI [])) := Lib.hid (Kd.R_nil _ _ _ _ _)
          have hokp : ∀ b,b < w.heap.size → ¬ False ∧ b ≠ g ∧ b ≠ w.heap.size := fun b hb => ⟨fun h => h,by omega,by omega⟩
          cases rb with
          | true =>
            rw [if_pos rfl] at hso
            subst hso
            go_upto_region 12 with (go_at_call 120;refine Calls.mono (find.calls k l w A1 c1 HR1.out HC1.out hn' g w.heap.size hg0 hm0 hne 100 0 l0 [] [] _ HFi.out (fun _ => False) (fun b => b < w.heap.size) 0 A0 c0 (.slice none 0 0) _ (by decide) hl0 (by simp) HB.out HX.out HS.out HO.out (fun h => h) (fun h => h) HV.out hokp) ?_;rintro e_ w5 ⟨rfl,vo,hb5,hk5,hx5,hs5,hR5⟩;have HB5 := Lib.hid hb5;have HR5 := Lib.hid (Kd.R_mono (ok' := fun _ => True) hR5 (fun _ _ => trivial));have g3 : w5.cell? ⟨g,3,none⟩ = some vo := (blk_cell hx5 3).trans rfl;clear hb5 hk5 hx5 hs5 hR5)
            obtain ⟨Ao,co,eo⟩ := Kd.R_slice HR5.out
            subst eo
            go_wp2_with fail
            go_ret2
            exact ⟨_,rfl,HR5.out,HB5.out⟩
          | false =>
            rw [if_neg (by simp)] at hso
            subst hso
            go_wp2_with (go_at_call 120;refine Calls.mono (find.calls k l w A1 c1 HR1.out HC1.out hn' g w.heap.size hg0 hm0 hne 100 0 l0 [] [] _ HFi.out (fun _ => False) (fun b => b < w.heap.size) 0 A0 c0 (.slice none 0 0) _ (by decide) hl0 (by simp) HB.out HX.out HS.out HO.out (fun h => h) (fun h => h) HV.out hokp) ?_;rintro e_ w5 ⟨rfl,vo,hb5,hk5,hx5,hs5,hR5⟩;have HB5 := Lib.hid hb5;clear hb5 hk5 hx5 hs5 hR5)
            go_ret2
            exact ⟨_,rfl,Kd.R_nil _ _ _ _ _,HB5.out⟩
    · rw [if_neg hl0] at h
      cases h
set_option maxHeartbeats 4000000 in
set_option maxRecDepth 100000 in
theorem Linear.calls (k : Nat) (A0 : Option Addr) (c0 : Nat) (l0 : List S40) (A1 : Option Addr) (c1 : Nat) (l : List S128) (b : Bool) (w : World) (hr0 : Kd.C k40 w A0 l0.length l0) (hc0 : l0.length ≤ c0) (hr1 : Kd.C k128 w A1 l.length l) (hc1 : l.length ≤ c1) (h : Linear.f k l0 l = some b) :
    Calls Try.prog 94 #[.slice A0 l0.length c0,.slice A1 l.length c1] w fun e w' => e = .returned (.bool b) ∧ Below w.heap.size w w' := by
  obtain ⟨⟨rb,so⟩,hf,h⟩ := Option.bind_eq_some_iff.1 h
  obtain rfl := Option.some.inj h
  have HR0 := Lib.hid hr0
  have HC0 := Lib.hid hc0
  have HR1 := Lib.hid hr1
  have HC1 := Lib.hid hc1
  have HFi := Lib.hid hf
  clear hr0 hc0 hr1 hc1 h hf
  go_enter Try.func94,Try.ntmps94
  go_wp2_with (go_at_call 92;refine (Order.calls k A0 c0 l0 A1 c1 l rb so _ HR0.out HC0.out HR1.out HC1.out HFi.out).mono ?_;rintro e_ w1 ⟨v0,rfl,hR,hb⟩;obtain ⟨Ao,co,eo⟩ := Kd.R_slice hR;subst eo;have HB := Lib.hid hb;clear hR hb)
  go_ret
  exact ⟨rfl,HB.out⟩
end Go.Proofs.Ytkoiffkonjpoiaa.Q
namespace Go.Proofs.Ytkoiffkonjpoiaa.Q
open Go.RowKit Go.Proofs.YtkoiffkonjpoiaaW.PrintWords Go.Proofs.YtkoiffkonjpoiaaW.PrintLast Go.Proofs.YtkoiffkonjpoiaaW.PrintMore Go.Proofs.YtkoiffkonjpoiaaX
def zA : S84 := ⟨0,false,0,0,[],false⟩
/-- An event of a history, and the pairs behind it. -/
def histE (k : Nat) (now : List S40) (i : Nat) (d : S126) : Option (List S40 × S128) :=
  if d.f3.tmod 8 = 5 then (boscagelaw18_Apply.f k now d.f0.f0 d.f0.f1 d.f0.f2 d.f0.f3).bind fun a => some (a.1,⟨i,d.f0,10 * (i : Int) + 5 - d.f1.tmod 50,-1,zA⟩)
  else if d.f3.tmod 8 = 6 then some (now,⟨i,d.f0,10 * (i : Int) + 5 - d.f1.tmod 50,-1,zA⟩)
  else if d.f3.tmod 8 = 7 then some (now,⟨i,d.f0,10 * (i : Int) + 5 - d.f1.tmod 50,10 * (i : Int) + 5 + d.f2.tmod 50,⟨3,false,0,0,[],false⟩⟩)
  else (boscagelaw18_Apply.f k now d.f0.f0 d.f0.f1 d.f0.f2 d.f0.f3).bind fun a => some (a.1,⟨i,d.f0,10 * (i : Int) + 5 - d.f1.tmod 50,10 * (i : Int) + 5 + d.f2.tmod 50,⟨a.2.1,a.2.2.1,a.2.2.2.1,a.2.2.2.2.1,a.2.2.2.2.2.1,a.2.2.2.2.2.2⟩⟩)
def histGo (k : Nat) : Nat → List S40 → List S126 → Option (List S128)
  | _,_,[] => some []
  | i,now,d :: r => (histE k now i d).bind fun x => (histGo k (i + 1) x.1 r).bind fun h => some (x.2 :: h)
def History.f (k : Nat) (first : List S40) (l : List S126) : Option (List S128) := histGo k 0 first l
def insAt (out : List S128) (m : Nat) (e : S128) : List S128 := out.take m ++ e :: out.drop m
def turnAt (by_ : List Int) (n : Nat) : Nat := if n < by_.length then (by_.getD n 0).toNat % (n + 1) else n
def turnGo (by_ : List Int) : List S128 → List S128 → List S128
  | out,[] => out
  | out,e :: r => turnGo by_ (insAt out (turnAt by_ out.length) e) r
def Turned.f (l : List S128) (by_ : List Int) : List S128 := turnGo by_ [] l
def spoilA (what : Int) (a : S84) : S84 :=
  if what.tmod 6 = 1 then ⟨a.f0,!a.f1,a.f2,a.f3,a.f4,a.f5⟩ else if what.tmod 6 = 2 then ⟨a.f0,a.f1,a.f2,wrap64 (a.f3 + 1),a.f4,a.f5⟩ else if what.tmod 6 = 3 then ⟨a.f0,a.f1,wrap64 (a.f2 + 1),a.f3,a.f4,a.f5⟩
  else if what.tmod 6 = 4 then ⟨10,a.f1,a.f2,a.f3,a.f4,a.f5⟩ else ⟨4,a.f1,a.f2,a.f3,a.f4,a.f5⟩
def spoilE (what : Int) (e : S128) : S128 := ⟨e.f0,e.f1,e.f2,e.f3,spoilA what e.f4⟩
def Spoilt.f (l : List S128) (which what : Int) : List S128 := if l.length = 0 ∨ what.tmod 6 = 0 then l else l.set (which.toNat % l.length) (spoilE what (rd_T128 l ((which.toNat % l.length : Nat) : Int)))
/-- Deeds of small numbers that are none below 0. -/
def okDs (l : List S126) : Prop := ∀ d ∈ l,0 ≤ d.f1 ∧ 0 ≤ d.f2 ∧ 0 ≤ d.f3
instance (l : List S126) : Decidable (okDs l) := by unfold okDs;infer_instance
def okB (x : Int) : Prop := 0 ≤ x ∧ x < 256
instance (x : Int) : Decidable (okB x) := by unfold okB;infer_instance
def okBs (l : List Int) : Prop := ∀ x ∈ l,okB x
instance (l : List Int) : Decidable (okBs l) := by unfold okBs;infer_instance
/-- The first pairs and the events that a law of the story begins with. -/
def told (k : Nat) (keys : List Int) (l : List S126) (by_ : List Int) (which what : Int) : Option (List S40 × List S128) :=
  (boscagelaw02_Rising.f k keys).bind fun first => (History.f k first l).bind fun h => some (first,Spoilt.f (Turned.f h by_) which what)
/-- What becomes of the pairs by an event, as the document has it. -/
def lawE (k : Nat) (p : List S40) (e : S128) : Option (Option (List S40)) := (boscagelaw18_Apply.f k p e.f1.f0 e.f1.f1 e.f1.f2 e.f1.f3).bind fun a => if 0 ≤ e.f3 then (boscagelaw18_Same.f k a.2.1 a.2.2.1 a.2.2.2.1 a.2.2.2.2.1 a.2.2.2.2.2.1 a.2.2.2.2.2.2 e.f4.f0 e.f4.f1 e.f4.f2 e.f4.f3 e.f4.f4 e.f4.f5).bind fun s => some (if s = true then some a.1 else none) else some (some a.1)
/-- May these be the first ones of an order? -/
def fitsGo (k : Nat) (l : List S128) : List Nat → List S40 → List Int → Option Bool
  | _,_,[] => some true
  | pre,now,i :: r => if i < 0 ∨ (l.length : Int) ≤ i then some false else if noneE (rd_T128 l i) = true then some false else if (pre.any fun j => j == i.toNat || (mustE (rd_T128 l i) && decide ((rd_T128 l i).f3 < (rd_T128 l j).f2))) = true then some false else (lawE k now (rd_T128 l i)).bind fun x => match x with | none => some false | some q => fitsGo k l (pre ++ [i.toNat]) q r
def Fits.f (k : Nat) (first : List S40) (l : List S128) (order : List Int) : Option Bool := fitsGo k l [] first order
def firstGo (again : List Int → Option (Bool × List Int)) (so : List Int) : List Nat → Option (Bool × List Int)
  | [] => some (false,[])
  | i :: r => (again (so ++ [(i : Int)])).bind fun x => if x.1 = true then some x else firstGo again so r
def First.f (k : Nat) (first : List S40) (l : List S128) : Nat → List Int → Option (Bool × List Int)
  | 0,_ => none
  | n + 1,so => (Fits.f k first l so).bind fun b => if b = true then (if Whole.f l so = true then some (true,so) else firstGo (First.f k first l n) so (List.range l.length)) else some (false,[])
def boscagelaw22_StoryOrders.f (k : Nat) (keys : List Int) (l : List S126) (by_ : List Int) (which what : Int) : Option Bool :=
  if okDs l ∧ okBs by_ ∧ okB which ∧ okB what then (if 8 < keys.length ∨ 5 < l.length then some true else (told k keys l by_ which what).bind fun p => (Order.f k p.1 p.2).bind fun o => (First.f k p.1 p.2 100 []).bind fun wn => if o.1 ≠ wn.1 ∨ o.2.length ≠ wn.2.length then some false else (Linear.f k p.1 p.2).bind fun b => if b ≠ wn.1 then some false else some (decide (toI o.2 = wn.2))) else none
theorem turnAt_le (by_ : List Int) (n : Nat) : turnAt by_ n ≤ n := by
  unfold turnAt
  split
  · exact Nat.le_of_lt_succ (Nat.mod_lt _ (Nat.succ_pos n))
  · exact Nat.le_refl _
theorem insAt_length (out : List S128) (m : Nat) (e : S128) : (insAt out m e).length = out.length + 1 := by
  unfold insAt
  simp
  omega
theorem turnGo_length (by_ : List Int) : ∀ (r out : List S128),(turnGo by_ out r).length = out.length + r.length
  | [],out => by simp [turnGo]
  | e :: r,out => by
    rw [turnGo,turnGo_length by_ r,insAt_length,List.length_cons]
    omega
theorem Turned.length (l : List S128) (by_ : List Int) : (Turned.f l by_).length = l.length := by
  unfold Turned.f
  rw [turnGo_length]
  simp
theorem Spoilt.length (l : List S128) (which what : Int) : (Spoilt.f l which what).length = l.length := by
  unfold Spoilt.f
  split
  · rfl
  · rw [List.length_set]
theorem histGo_length (k : Nat) : ∀ (l : List S126) (i : Nat) (now : List S40) (h : List S128),histGo k i now l = some h → h.length = l.length
  | [],_,_,h,e => by cases e;rfl
  | d :: r,i,now,h,e => by
    simp only [histGo] at e
    obtain ⟨x,_,e⟩ := Option.bind_eq_some_iff.1 e
    obtain ⟨h',h1,e⟩ := Option.bind_eq_some_iff.1 e
    cases e
    rw [List.length_cons,List.length_cons,histGo_length k r _ _ _ h1]
end Go.Proofs.Ytkoiffkonjpoiaa.Q
namespace Go.Proofs.Ytkoiffkonjpoiaa.Q
open Go.RowKit Go.Proofs.YtkoiffkonjpoiaaW.PrintWords Go.Proofs.YtkoiffkonjpoiaaW.PrintLast Go.Proofs.YtkoiffkonjpoiaaW.PrintMore Go.Proofs.YtkoiffkonjpoiaaX
attribute [local go_sem] max2_int min2_int max_two min_two max_three min_three max_four min_four
set_option linter.unusedVariables false
set_option linter.unusedSimpArgs false
/-- A deed's cells. -/
def deA (x : S126) : Array Value := #[.int .u8 x.f0.f0,.int .i64 x.f0.f1,.int .i64 x.f0.f2,.int .i64 x.f0.f3,.int .u8 x.f1,.int .u8 x.f2,.int .u8 x.f3]
theorem de_cells {w : World} {g : Nat} {x : S126} (h : w.heap[g]? = some (.cells (deA x) 126 (0,0))) :
    w.cell? ⟨g,0,none⟩ = some (.int .u8 x.f0.f0) ∧ w.cell? ⟨g,1,none⟩ = some (.int .i64 x.f0.f1) ∧ w.cell? ⟨g,2,none⟩ = some (.int .i64 x.f0.f2) ∧ w.cell? ⟨g,3,none⟩ = some (.int .i64 x.f0.f3) ∧ w.cell? ⟨g,4,none⟩ = some (.int .u8 x.f1) ∧ w.cell? ⟨g,5,none⟩ = some (.int .u8 x.f2) ∧ w.cell? ⟨g,6,none⟩ = some (.int .u8 x.f3) :=
  ⟨(blk_cell h 0).trans rfl,(blk_cell h 1).trans rfl,(blk_cell h 2).trans rfl,(blk_cell h 3).trans rfl,(blk_cell h 4).trans rfl,(blk_cell h 5).trans rfl,(blk_cell h 6).trans rfl⟩
def evL (x : S128) (A : Option Addr) (c : Nat) : List Value := [.int .i64 x.f0,.int .u8 x.f1.f0,.int .i64 x.f1.f1,.int .i64 x.f1.f2,.int .i64 x.f1.f3,.int .i64 x.f2,.int .i64 x.f3,.int .i64 x.f4.f0,.bool x.f4.f1,.int .i64 x.f4.f2,.int .i64 x.f4.f3,.slice A x.f4.f4.length c,.bool x.f4.f5]
theorem ev_end {w0 W : World} {g : Nat} {x : S128} {A : Option Addr} {c : Nat} (n : Int) (h : W.heap[g]? = some (.cells (evA x A c) 128 (0,0))) (hg : w0.heap.size ≤ g) (hb : Below w0.heap.size w0 W) :
    (W.setCell ⟨g,6,none⟩ (.int .i64 n)).heap[g]? = some (.cells (evA ⟨x.f0,x.f1,x.f2,n,x.f4⟩ A c) 128 (0,0)) ∧ Below w0.heap.size w0 (W.setCell ⟨g,6,none⟩ (.int .i64 n)) :=
  ⟨blk_put h 6 _ rfl,below_set hb hg⟩
theorem ev_ans {w0 W : World} {g : Nat} {x : S128} {A : Option Addr} {c : Nat} (a : S84) (A' : Option Addr) (c' : Nat) (h : W.heap[g]? = some (.cells (evA x A c) 128 (0,0))) (hg : w0.heap.size ≤ g) (HB : Below w0.heap.size w0 W) :
    ((((((W.setCell ⟨g,7,none⟩ (.int .i64 a.f0)).setCell ⟨g,8,none⟩ (.bool a.f1)).setCell ⟨g,9,none⟩ (.int .i64 a.f2)).setCell ⟨g,10,none⟩ (.int .i64 a.f3)).setCell ⟨g,11,none⟩ (.slice A' a.f4.length c')).setCell ⟨g,12,none⟩ (.bool a.f5)).heap[g]? = some (.cells (evA ⟨x.f0,x.f1,x.f2,x.f3,a⟩ A' c') 128 (0,0)) ∧
    Below w0.heap.size w0 ((((((W.setCell ⟨g,7,none⟩ (.int .i64 a.f0)).setCell ⟨g,8,none⟩ (.bool a.f1)).setCell ⟨g,9,none⟩ (.int .i64 a.f2)).setCell ⟨g,10,none⟩ (.int .i64 a.f3)).setCell ⟨g,11,none⟩ (.slice A' a.f4.length c')).setCell ⟨g,12,none⟩ (.bool a.f5)) ∧
    (∀ b,b ≠ g → ((((((W.setCell ⟨g,7,none⟩ (.int .i64 a.f0)).setCell ⟨g,8,none⟩ (.bool a.f1)).setCell ⟨g,9,none⟩ (.int .i64 a.f2)).setCell ⟨g,10,none⟩ (.int .i64 a.f3)).setCell ⟨g,11,none⟩ (.slice A' a.f4.length c')).setCell ⟨g,12,none⟩ (.bool a.f5)).heap[b]? = W.heap[b]?) := by
  refine ⟨?_,?_,fun b hne => ?_⟩
  · exact blk_put (blk_put (blk_put (blk_put (blk_put (blk_put h 7 _ rfl) 8 _ rfl) 9 _ rfl) 10 _ rfl) 11 _ rfl) 12 _ rfl
  · exact below_set (below_set (below_set (below_set (below_set (below_set HB hg) hg) hg) hg) hg) hg
  · exact (Below.heap_setCell _ _ _ b hne).trans ((Below.heap_setCell _ _ _ b hne).trans ((Below.heap_setCell _ _ _ b hne).trans ((Below.heap_setCell _ _ _ b hne).trans ((Below.heap_setCell _ _ _ b hne).trans (Below.heap_setCell _ _ _ b hne)))))
/-- The pairs that are now: a row that is read, apart from a row that grows. -/
def NowAt (W : World) (u : Value) (A : Option Addr) (c : Nat) (now : List S40) : Prop := now.length ≤ c ∧ ∃ N : Nat → Prop,Kd.F k40 W N A now.length now ∧ ∀ b,N b → b < W.heap.size ∧ some b ≠ u.ownBlock
theorem NowAt.start {w : World} {A : Option Addr} {c : Nat} {l : List S40} (h : Kd.C k40 w A l.length l) (hc : l.length ≤ c) : NowAt w (.slice none 0 0) A c l :=
  ⟨hc,fun b => b < w.heap.size,Kd.C_F k40_heap h,fun b hb => ⟨hb,by simp [Value.ownBlock]⟩⟩
theorem NowAt.below {W W' : World} {u : Value} {A : Option Addr} {c : Nat} {l : List S40} (h : NowAt W u A c l) (hb : Below W.heap.size W W') : NowAt W' u A c l := by
  obtain ⟨h1,N,h2,h3⟩ := h
  exact ⟨h1,N,Kd.F_below h2 hb,fun b hN => ⟨Nat.lt_of_lt_of_le (h3 b hN).1 hb.size,(h3 b hN).2⟩⟩
theorem NowAt.grow {W W' : World} {u u' : Value} {A : Option Addr} {c : Nat} {l : List S40} (h : NowAt W u A c l) (hg : W.grownBy W' u.ownBlock) (hat : u'.ownBlock = u.ownBlock ∨ ∃ b,u'.ownBlock = some b ∧ W.heap.size ≤ b) : NowAt W' u' A c l := by
  obtain ⟨h1,N,h2,h3⟩ := h
  refine ⟨h1,N,Kd.F_step h2 (fun b hb hl => hg.block b hl (h3 b hb).2),fun b hN => ⟨Nat.lt_of_lt_of_le (h3 b hN).1 hg.size,fun he => ?_⟩⟩
  rcases hat with hat | ⟨b',hb',hle⟩
  · exact (h3 b hN).2 (he.trans hat)
  · rw [hb'] at he
    cases he
    have := (h3 b hN).1
    omega
/-- Behind a call that answers pairs, read from these or new, and a store elsewhere. -/
theorem NowAt.next {W0 W1 W2 W3 : World} {u v5 : Value} {A A' : Option Addr} {c c' : Nat} {l l' : List S40} {N : Nat → Prop} (hN : ∀ b,N b → b < W0.heap.size ∧ some b ≠ u.ownBlock) (hu : ∀ b,u.ownBlock = some b → b < W0.heap.size) (h01 : W0.heap.size ≤ W1.heap.size) (hc : l'.length ≤ c') (hF : Kd.F k40 W2 (fun b => (N b ∨ W1.heap.size ≤ b) ∧ some b ≠ v5.ownBlock) A' l'.length l')
    {g : Nat} (hg0 : W0.heap.size ≤ g) (hg1 : g < W1.heap.size) (hs : W2.heap.size ≤ W3.heap.size) (h3 : ∀ b,b ≠ g → W3.heap[b]? = W2.heap[b]?) : NowAt W3 u A' c' l' := by
  have h4 : ∀ b,((N b ∨ W1.heap.size ≤ b) ∧ some b ≠ v5.ownBlock) → b ≠ g := fun b hb => by
    rcases hb.1 with h | h
    · have := (hN b h).1;omega
    · omega
  have hF3 := Kd.F_step (W1 := W3) hF (fun b hb _ => h3 b (h4 b hb))
  refine ⟨hc,fun b => ((N b ∨ W1.heap.size ≤ b) ∧ some b ≠ v5.ownBlock) ∧ b < W3.heap.size,fun W' hW' => hF3 W' (fun b hb hl => hW' b ⟨hb,hl⟩ hl),fun b hb => ⟨hb.2,fun he => ?_⟩⟩
  rcases hb.1.1 with h | h
  · exact (hN b h).2 he
  · have := hu b he.symm
    omega
theorem wraps10 (i : Nat) (B N : Int) (hi : i < 1000) (hB : 0 ≤ B ∧ B < 50) (hN : 0 ≤ N ∧ N < 50) : wrap64 (10 * (i : Int)) = 10 * (i : Int) ∧ wrap64 (10 * (i : Int) + 5) = 10 * (i : Int) + 5 ∧ wrap64 B = B ∧ wrap64 N = N ∧ wrap64 (10 * (i : Int) + 5 - B) = 10 * (i : Int) + 5 - B ∧ wrap64 (10 * (i : Int) + 5 + N) = 10 * (i : Int) + 5 + N := by
  refine ⟨?_,?_,?_,?_,?_,?_⟩ <;> (unfold wrap64;omega)
set_option maxHeartbeats 8000000 in
set_option maxRecDepth 100000 in
theorem History.calls (k : Nat) (A0 : Option Addr) (c0 : Nat) (l0 : List S40) (A1 : Option Addr) (c1 : Nat) (l : List S126) (h : List S128) (w : World) (hr0 : Kd.C k40 w A0 l0.length l0) (hc0 : l0.length ≤ c0) (hr1 : Kd.C k126 w A1 l.length l) (hc1 : l.length ≤ c1) (hd : okDs l) (hn : l.length ≤ 1000) (hf : History.f k l0 l = some h) :
    Calls Try.prog 88 #[.slice A0 l0.length c0,.slice A1 l.length c1] w fun e w' => ∃ v,e = .returned v ∧ Kd.R k128 128 w' w.heap.size (fun _ => True) v h ∧ Below w.heap.size w w' := by
  have hu128 := Try.underlying128
  have hu126 := Try.underlying126
  have hu84 := Try.underlying84
  have hu78 := Try.underlying78
  have info128' := info128
  have HR1 := Lib.hid hr1
  have HC1 := Lib.hid hc1
  have HP := Lib.hid (NowAt.start hr0 hc0)
  have HD := Lib.hid hd
  have HF : Hid (∃ rest,histGo k 0 l0 (l.drop 0) = some rest ∧ h = [] ++ rest) := Lib.hid ⟨h,hf,rfl⟩
  clear hr0 hc0 hr1 hc1 hd hf
  go_enter Try.func88,Try.ntmps88
  go_wp2_with fail
  go_loopg [13,5,6] l.length (fun gk v13 v5 v6 W => ∃ (i : Nat) (out : List S128) (now : List S40) (An : Option Addr) (cn : Nat),v13 = .int .i64 (i : Int) ∧ v6 = .slice An now.length cn ∧ i ≤ l.length ∧ l.length - i ≤ gk ∧ out.length = i ∧ Hid (∃ rest,histGo k i now (l.drop i) = some rest ∧ h = out ++ rest) ∧ Hid (NowAt W v5 An cn now) ∧ Hid (Kd.R k128 128 W w.heap.size (fun _ => True) v5 out) ∧ Hid (Below w.heap.size w W))
  case atStart => exact ⟨0,[],l0,A0,c0,rfl,rfl,by omega,by omega,rfl,HF,HP,Lib.hid (Kd.R_nil _ _ _ _ _),Lib.hid (Below.refl _ _)⟩
  case round =>
    clear HF HP
    obtain ⟨i,out,now,An,cn,rfl,rfl,hi1,hgk,hol,HF,HP,HR,HB⟩ := hrel
    by_cases hi : i < l.length
    · obtain ⟨d,hde⟩ : ∃ d,d = rd_T126 l (i : Int) := ⟨_,rfl⟩
      have hdm : d ∈ l := by rw [hde];simp [rd_T126,hi]
      have hdrop : l.drop i = d :: l.drop (i + 1) := by
        rw [List.drop_eq_getElem_cons hi,hde]
        simp [rd_T126,hi]
      obtain ⟨rest,hf,hh⟩ := HF.out
      rw [hdrop] at hf
      simp only [histGo] at hf
      obtain ⟨⟨now',e⟩,hE,hf⟩ := Option.bind_eq_some_iff.1 hf
      obtain ⟨rest',hf',hf⟩ := Option.bind_eq_some_iff.1 hf
      obtain rfl := Option.some.inj hf
      have HE := Lib.hid hE
      have HF2 : Hid (∃ rest,histGo k (i + 1) now' (l.drop (i + 1)) = some rest ∧ h = (out ++ [e]) ++ rest) := Lib.hid ⟨rest',hf',by rw [hh];simp⟩
      obtain ⟨hd1,hd2,hd3⟩ := HD.out d hdm
      have HDd := Lib.hid (And.intro hd1 (And.intro hd2 hd3))
      obtain ⟨ad,e1,x0,x1,x2,x3,x4,x5,x6⟩ := at_T126 (Kd.C_below HR1.out HB.out) (i : Int) (by omega) (by omega)
      rw [← hde,Int.toNat_natCast] at x0 x1 x2 x3 x4 x5 x6
      clear hde hdm hdrop hE hf hf' hh HF hd1 hd2 hd3
      cases e1
      have hid : decide ((i : Int) < (l.length : Int)) = true := decide_eq_true (by omega)
      have hiw : IntKind.i64.wrap ((i : Int) + 1) = (i : Int) + 1 := by rw [IntKind.wrap_i64];omega
      go_upto_region 6 with (fail)
      refine find.settle (p := fun W => Code.wp _ _ _ _ W) (R := fun W => Hid (W.heap[wr.heap.size]? = some (.cells (deA d) 126 (0,0))) ∧ Hid (Below wr.heap.size wr W)) ⟨Lib.hid (heap_alloc_new _ _),Lib.hid (below_alloc (Below.refl _ _) _)⟩ ?_
      clear x0 x1 x2 x3 x4 x5 x6
      rintro w1 ⟨HZ,BS⟩
      obtain ⟨B,hB⟩ : ∃ B,d.f1.tmod 50 = B := ⟨_,rfl⟩
      obtain ⟨N,hN⟩ : ∃ N,d.f2.tmod 50 = N := ⟨_,rfl⟩
      have hB0 : 0 ≤ B ∧ B < 50 := ⟨hB ▸ Int.tmod_nonneg 50 HDd.out.1,hB ▸ Int.tmod_lt_of_pos _ (by decide)⟩
      have hN0 : 0 ≤ N ∧ N < 50 := ⟨hN ▸ Int.tmod_nonneg 50 HDd.out.2.1,hN ▸ Int.tmod_lt_of_pos _ (by decide)⟩
      obtain ⟨q1,q2,q3,q4,q5,q6⟩ := wraps10 i B N (by omega) hB0 hN0
      obtain ⟨y0,y1,y2,y3,y4,y5,y6⟩ := de_cells HZ.out
      go_upto_region 7 with (fail)
      refine find.settle (p := fun W => Code.wp _ _ _ _ W) (R := fun W => Hid (W.heap[wr.heap.size]? = some (.cells (deA d) 126 (0,0))) ∧ Hid (W.heap[w1.heap.size]? = some (.cells (evA ⟨i,d.f0,10 * (i : Int) + 5 - B,10 * (i : Int) + 5 + N,zA⟩ none 0) 128 (0,0))) ∧ Hid (Below wr.heap.size wr W)) ⟨Lib.hid (blk_alloc HZ.out _),Lib.hid (heap_alloc_new _ _),Lib.hid (below_alloc BS.out _)⟩ ?_
      have hgE : wr.heap.size < w1.heap.size := (Array.getElem?_eq_some_iff.1 HZ.out).1
      clear y0 y1 y2 y3 y4 y5 y6 q1 q2 q3 q4 q5 q6 HZ BS
      generalize w1.heap.size = gE at *
      clear hB0 hN0
      subst hB
      subst hN
      rintro w2 ⟨HZ,HX,BS⟩
      obtain ⟨y0,y1,y2,y3,y4,y5,y6⟩ := de_cells HZ.out
      go_upto_block 2 with (fail)
      go_cut [6,40] (fun v6 v40 wc => ∃ (An' : Option Addr) (cn' : Nat) (A : Option Addr) (c : Nat),v6 = .slice An' now'.length cn' ∧ Hid (NowAt wc u5 An' cn' now') ∧ Hid (wc.heap[gE]? = some (.cells (evA e A c) 128 (0,0))) ∧ Hid (Kd.R k40 40 wc w.heap.size (fun b => wr.heap.size ≤ b) (.slice A e.f4.f4.length c) e.f4.f4) ∧ Hid (Below wr.heap.size wr wc))
      case first =>
        have hE := HE.out
        clear HF2 HE
        unfold histE at hE
        have hgE2 : gE < w2.heap.size := (Array.getElem?_eq_some_iff.1 HX.out).1
        obtain ⟨hcn,Nn,hFn,hNn⟩ := HP.out
        have HV : Hid (Kd.V k40 40 w2 w2.heap.size Nn (.slice An now.length cn) now) := Lib.hid (Kd.V_mk hcn (Kd.F_below hFn BS.out))
        have HNn := Lib.hid hNn
        have HLT := Lib.hid (Kd.R_lt HR.out)
        clear hcn hFn hNn
        obtain ⟨z0,z1,z2,z3,z4,z5,z6,z7,z8,z9,z10,z11,z12⟩ := ev_cells HX.out
        have z6f := blk_frozen HX.out 6
        have HGE := Lib.hid (And.intro hgE hgE2)
        clear hgE hgE2
        by_cases f5 : d.f3.tmod 8 = 5
        · rw [if_pos f5] at hE
          obtain ⟨⟨b1,b2,b3,b4,b5,b6,b7⟩,hA,hE⟩ := Option.bind_eq_some_iff.1 hE
          have HA := Lib.hid hA
          obtain ⟨rfl,rfl⟩ := Prod.mk.inj (Option.some.inj hE)
          clear hE hA
          go_wp2_with (go_at_call 75;refine Calls.mono (boscagelaw18_Apply.calls k Nn An cn now d.f0.f0 d.f0.f1 d.f0.f2 d.f0.f3 b1 b2 b3 b4 b5 b6 b7 _ HV.out HA.out) ?_;rintro e_ wV ⟨v0,v5,rfl,hV1,hO2,hb⟩;obtain ⟨Aq,cq,eq_⟩ := Kd.R_slice hO2;subst eq_;obtain ⟨Az,cz,ez,hlz,hfz⟩ := hV1;subst ez;have FZ := Lib.hid (And.intro hlz hfz);have HX' := Lib.hid (blk_below HX.out hb);have BV := Lib.hid (below_step BS.out hb);clear hO2 hb hlz hfz;have x6 := (ev_cells HX'.out).2.2.2.2.2.2.1;have x6f := blk_frozen HX'.out 6)
          go_meet
          case rel =>
            obtain ⟨p1,p2⟩ := ev_end (-1) HX'.out (Nat.le_of_lt HGE.out.1) BV.out
            exact ⟨Az,cz,none,0,rfl,Lib.hid (NowAt.next (A := An) (c := cn) (l := now) HNn.out HLT.out BS.out.size FZ.out.1 FZ.out.2 (Nat.le_of_lt HGE.out.1) HGE.out.2 (by simp [World.setCell]) (fun b hb => Below.heap_setCell _ _ _ b hb)),Lib.hid p1,Lib.hid (Kd.R_nil _ _ _ _ _),Lib.hid p2⟩
        · rw [if_neg f5] at hE
          have f5b : (d.f3.tmod 8 == 5) = false := by simpa using f5
          have f5d : decide (d.f3.tmod 8 = 5) = false := decide_eq_false f5
          by_cases f6 : d.f3.tmod 8 = 6
          · rw [if_pos f6] at hE
            obtain ⟨rfl,rfl⟩ := Prod.mk.inj (Option.some.inj hE)
            clear hE f5 f5b f5d
            go_wp2_with fail
            go_meet
            case rel =>
              obtain ⟨p1,p2⟩ := ev_end (-1) HX.out (Nat.le_of_lt HGE.out.1) BS.out
              exact ⟨An,cn,none,0,rfl,Lib.hid (NowAt.below HP.out p2),Lib.hid p1,Lib.hid (Kd.R_nil _ _ _ _ _),Lib.hid p2⟩
          · rw [if_neg f6] at hE
            have f6b : (d.f3.tmod 8 == 6) = false := by simpa using f6
            have f6d : decide (d.f3.tmod 8 = 6) = false := decide_eq_false f6
            by_cases f7 : d.f3.tmod 8 = 7
            · rw [if_pos f7] at hE
              obtain ⟨rfl,rfl⟩ := Prod.mk.inj (Option.some.inj hE)
              have z7f := blk_frozen HX.out 7
              have z8f := blk_frozen HX.out 8
              have z9f := blk_frozen HX.out 9
              have z10f := blk_frozen HX.out 10
              have z11f := blk_frozen HX.out 11
              have z12f := blk_frozen HX.out 12
              clear hE f5 f5b f5d f6 f6b f6d
              go_wp2_with fail
              go_meet
              case rel =>
                obtain ⟨p1,p2,_⟩ := ev_ans ⟨3,false,0,0,[],false⟩ none 0 HX.out (Nat.le_of_lt HGE.out.1) BS.out
                exact ⟨An,cn,none,0,rfl,Lib.hid (NowAt.below HP.out p2),Lib.hid p1,Lib.hid (Kd.R_nil _ _ _ _ _),Lib.hid p2⟩
            · rw [if_neg f7] at hE
              have f7b : (d.f3.tmod 8 == 7) = false := by simpa using f7
              have f7d : decide (d.f3.tmod 8 = 7) = false := decide_eq_false f7
              obtain ⟨⟨b1,b2,b3,b4,b5,b6,b7⟩,hA,hE⟩ := Option.bind_eq_some_iff.1 hE
              have HA := Lib.hid hA
              obtain ⟨rfl,rfl⟩ := Prod.mk.inj (Option.some.inj hE)
              clear hE hA f5 f6 f7
              go_wp2_with (go_at_call 75;refine Calls.mono (boscagelaw18_Apply.calls k Nn An cn now d.f0.f0 d.f0.f1 d.f0.f2 d.f0.f3 b1 b2 b3 b4 b5 b6 b7 _ HV.out HA.out) ?_;rintro e_ wV ⟨v0,v5,rfl,hV1,hO2,hb⟩;obtain ⟨Aq,cq,eq_⟩ := Kd.R_slice hO2;subst eq_;obtain ⟨Az,cz,ez,hlz,hfz⟩ := hV1;subst ez;have FZ := Lib.hid (And.intro hlz hfz);have HX' := Lib.hid (blk_below HX.out hb);have BV := Lib.hid (below_step BS.out hb);have HO := Lib.hid hO2;clear hO2 hb hlz hfz;have x7 := (ev_cells HX'.out).2.2.2.2.2.2.2.1;have x8 := (ev_cells HX'.out).2.2.2.2.2.2.2.2.1;have x9 := (ev_cells HX'.out).2.2.2.2.2.2.2.2.2.1;have x10 := (ev_cells HX'.out).2.2.2.2.2.2.2.2.2.2.1;have x11 := (ev_cells HX'.out).2.2.2.2.2.2.2.2.2.2.2.1;have x12 := (ev_cells HX'.out).2.2.2.2.2.2.2.2.2.2.2.2;have x7f := blk_frozen HX'.out 7;have x8f := blk_frozen HX'.out 8;have x9f := blk_frozen HX'.out 9;have x10f := blk_frozen HX'.out 10;have x11f := blk_frozen HX'.out 11;have x12f := blk_frozen HX'.out 12)
              go_meet
              case rel =>
                obtain ⟨p1,p2,p3⟩ := ev_ans ⟨b2,b3,b4,b5,b6,b7⟩ Aq cq HX'.out (Nat.le_of_lt HGE.out.1) BV.out
                have hs := BS.out.size
                have h0 := HB.out.size
                refine ⟨Az,cz,Aq,cq,rfl,Lib.hid (NowAt.next (A := An) (c := cn) (l := now) HNn.out HLT.out BS.out.size FZ.out.1 FZ.out.2 (Nat.le_of_lt HGE.out.1) HGE.out.2 (by simp [World.setCell]) p3),Lib.hid p1,Lib.hid (Kd.R_mono (Kd.R_step (Kd.R_lower HO.out (by omega)) (fun g hg _ => p3 g ?_)) ?_),Lib.hid p2⟩
                · have := HGE.out;omega
                · intro g hg;omega
      case rest =>
        obtain ⟨An',cn',A,c,rfl,HP',HX',HQ,BS'⟩ := hcut
        obtain ⟨z0,z1,z2,z3,z4,z5,z6,z7,z8,z9,z10,z11,z12⟩ := ev_cells HX'.out
        clear y0 y1 y2 y3 y4 y5 y6 HZ HX BS HP HE
        have HRw := Lib.hid (Kd.R_below HR.out BS'.out)
        have hlt := Kd.R_lt HR.out
        have HLT := Lib.hid hlt
        clear hlt
        have HBw := Lib.hid (below_step HB.out BS'.out)
        have hle : (out.length + 1) * 120 ≤ 140737488355328 := by omega
        go_wp2_with ((with_reducible refine gate_builtin (b := .append) (xs := #[.tmp 66,.tmp 68]) rfl ?_);at_builtin;refine Kd.R_append k128 (w0 := w) w.heap.size rfl (.tmp 66) (.tmp 68) 112 128 (.agg #[(.int .i64 0),(.int .u8 0),(.int .i64 0),(.int .i64 0),(.int .i64 0),(.int .i64 0),(.int .i64 0),(.int .i64 0),(.bool false),(.int .i64 0),(.int .i64 0),(.slice none 0 0),(.bool false)]) 120 rfl Try.underlying112 info128 rfl (by decide) (by omega) u5 out e (evL e A c) (fun _ => True) (fun b => wr.heap.size ≤ b) rfl rfl (k128_mkM _ _ _ _ HQ.out) (fun b hb => ⟨trivial,fun he => absurd (HLT.out b he.symm) (by omega)⟩) (fun _ _ => trivial) HRw.out HBw.out (below_size HBw.out) hle ?_;intro v1 w5 ho hb hg hat;have HR5 := Lib.hid ho;have HB5 := Lib.hid hb;have HG5 := Lib.hid (And.intro hg hat);clear ho hb hg hat)
        go_roundg (l.length - (i + 1))
        case rel => exact ⟨i + 1,out ++ [e],now',An',cn',by first | rfl | exact congrArg _ hiw | (simp [hiw]),rfl,by omega,by omega,by simp [hol],HF2,Lib.hid (NowAt.grow HP'.out HG5.out.1 HG5.out.2),HR5,HB5⟩
        all_goals omega
    · obtain rfl : i = l.length := by omega
      have hid : decide ((l.length : Int) < (l.length : Int)) = false := decide_eq_false (by omega)
      have hh : h = out := by
        obtain ⟨rest,h1,h2⟩ := HF.out
        rw [List.drop_length] at h1
        cases h1
        simpa using h2
      subst hh
      go_wp2_with fail
      go_ret
      exact ⟨_,rfl,HR.out,HB.out⟩
end Go.Proofs.Ytkoiffkonjpoiaa.Q
namespace Go.Proofs.Ytkoiffkonjpoiaa.Q
open Go.RowKit Go.Proofs.YtkoiffkonjpoiaaW.PrintWords Go.Proofs.YtkoiffkonjpoiaaW.PrintLast Go.Proofs.YtkoiffkonjpoiaaW.PrintMore Go.Proofs.YtkoiffkonjpoiaaX
set_option linter.unusedVariables false
set_option linter.unusedSimpArgs false
/-- Events that are read, made below a world's blocks. -/
def EvRows (w0 W : World) (B : Nat) (A : Option Addr) (n : Nat) (xs : List S128) : Prop := ReadsRow (k128.M W B (fun b => b < w0.heap.size)) 13 W A n xs
theorem evM_below {w0 w W : World} {B : Nat} {ok : Nat → Prop} {x : S128} {cs : List Value} (h : k128.M w B ok x cs) (hw : ∀ b,ok b → b < w.heap.size → b < w0.heap.size) (hb : ∀ b,b < w.heap.size → b < w0.heap.size → W.heap[b]? = w.heap[b]?) : k128.M W B (fun b => b < w0.heap.size) x cs :=
  k128.M_mono (fun b hb => hb.1) (k128.M_move (ok := fun b => b < w0.heap.size ∧ b < w.heap.size) (fun b h => hb b h.2 h.1) (k128.M_mono (fun b h => ⟨hw b h.1 h.2.2.1,h.2.2.1⟩) (k128.M_bound h)))
theorem EvRows.of {w : World} {B : Nat} {ok : Nat → Prop} {v : Value} {xs : List S128} (h : Kd.R k128 128 w B ok v xs) : ∃ A c,v = .slice A xs.length c ∧ xs.length ≤ c ∧ EvRows w w B A xs.length xs := by
  obtain ⟨A,c,h1,h2,h3⟩ := OwnRow.reads h.2
  exact ⟨A,c,h1,h2,ReadsRow.imp_ h3 (Below.refl _ _) (fun p cs hp => evM_below hp (fun b _ hb => hb) (fun b _ _ => rfl))⟩
theorem EvRows.below {w0 W W' : World} {B : Nat} {A : Option Addr} {n : Nat} {xs : List S128} (h : EvRows w0 W B A n xs) (hb : Below W.heap.size W W') : EvRows w0 W' B A n xs :=
  ReadsRow.imp_ h hb (fun p cs hp => evM_below hp (fun b h _ => h) (fun b h _ => hb.block b h))
theorem EvRows.at0 {w0 W : World} {B : Nat} {A : Option Addr} {n : Nat} {xs : List S128} (h : EvRows w0 w0 B A n xs) (hb : Below w0.heap.size w0 W) : EvRows w0 W B A n xs :=
  ReadsRow.imp_ h hb (fun p cs hp => evM_below hp (fun b h _ => h) (fun b _ h => hb.block b h))
theorem EvRows.take {w0 W : World} {B : Nat} {A : Option Addr} {xs : List S128} (h : EvRows w0 W B A xs.length xs) {m : Nat} (hm : m ≤ xs.length) : EvRows w0 W B A m (xs.take m) := by
  have hl : (xs.take m).length = m := by rw [List.length_take];omega
  refine ⟨hl,by have := h.2.1;omega,fun hp => ?_⟩
  obtain ⟨ad,e,hc⟩ := h.2.2 (by omega)
  refine ⟨ad,e,fun j p hj => hc j p ?_⟩
  rw [List.getElem?_take] at hj
  split at hj
  · exact hj
  · cases hj
theorem EvRows.drop {w0 W : World} {B : Nat} {A : Option Addr} {xs : List S128} {c : Nat} (h : EvRows w0 W B A xs.length xs) {m : Nat} (hm : m ≤ xs.length) (hc : xs.length ≤ c) : EvRows w0 W B (if c = m then A else A.map (·.add (m * 13))) (xs.length - m) (xs.drop m) := by
  have hl : (xs.drop m).length = xs.length - m := List.length_drop
  refine ⟨hl,by have := h.2.1;omega,fun hp => ?_⟩
  obtain ⟨ad,rfl,hcell⟩ := h.2.2 (by omega)
  rw [if_neg (by omega)]
  refine ⟨ad.add (m * 13),rfl,fun j p hj => ?_⟩
  rw [List.getElem?_drop] at hj
  obtain ⟨cs,h1,h2,h3⟩ := hcell (m + j) p hj
  refine ⟨cs,h1,h2,fun i u hu => ?_⟩
  rw [add_add,show m * 13 + (j * 13 + i) = (m + j) * 13 + i by omega]
  exact h3 i u hu
/-- An event that is read: its cells. -/
theorem EvRows.get {w0 W : World} {B : Nat} {A : Option Addr} {xs : List S128} (h : EvRows w0 W B A xs.length xs) (i : Nat) (hi : i < xs.length) (e : S128) (he : e = rd_T128 xs (i : Int)) : ∃ ad A11 c11,A = some ad ∧ e.f4.f4.length ≤ c11 ∧ k128.M W B (fun b => b < w0.heap.size) e (evL e A11 c11) ∧ W.cell? (ad.add (i * 13)) = some (.int .i64 e.f0) ∧ W.cell? ⟨(ad.add (i * 13)).block,(ad.add (i * 13)).off + 1,none⟩ = some (.int .u8 e.f1.f0) ∧ W.cell? ⟨(ad.add (i * 13)).block,(ad.add (i * 13)).off + 2,none⟩ = some (.int .i64 e.f1.f1) ∧ W.cell? ⟨(ad.add (i * 13)).block,(ad.add (i * 13)).off + 3,none⟩ = some (.int .i64 e.f1.f2) ∧ W.cell? ⟨(ad.add (i * 13)).block,(ad.add (i * 13)).off + 4,none⟩ = some (.int .i64 e.f1.f3) ∧ W.cell? ⟨(ad.add (i * 13)).block,(ad.add (i * 13)).off + 5,none⟩ = some (.int .i64 e.f2) ∧ W.cell? ⟨(ad.add (i * 13)).block,(ad.add (i * 13)).off + 6,none⟩ = some (.int .i64 e.f3) ∧ W.cell? ⟨(ad.add (i * 13)).block,(ad.add (i * 13)).off + 7,none⟩ = some (.int .i64 e.f4.f0) ∧ W.cell? ⟨(ad.add (i * 13)).block,(ad.add (i * 13)).off + 8,none⟩ = some (.bool e.f4.f1) ∧ W.cell? ⟨(ad.add (i * 13)).block,(ad.add (i * 13)).off + 9,none⟩ = some (.int .i64 e.f4.f2) ∧ W.cell? ⟨(ad.add (i * 13)).block,(ad.add (i * 13)).off + 10,none⟩ = some (.int .i64 e.f4.f3) ∧ W.cell? ⟨(ad.add (i * 13)).block,(ad.add (i * 13)).off + 11,none⟩ = some (.slice A11 e.f4.f4.length c11) ∧ W.cell? ⟨(ad.add (i * 13)).block,(ad.add (i * 13)).off + 12,none⟩ = some (.bool e.f4.f5) := by
  obtain ⟨ad,c,hA,hl,hM,hc⟩ := ReadsRow.get_ h z128 (i : Int) (by omega) (by omega)
  rw [show xs.getD (i : Int).toNat z128 = e by rw [he];rfl] at hM
  rw [Int.toNat_natCast] at hc
  obtain ⟨v11,rfl,hR⟩ := k128_openM hM
  obtain ⟨A11,c11,rfl⟩ := Kd.R_slice hR
  have a0 : ad.add (i * 13 + 0) = ad.add (i * 13) := rfl
  have t : ∀ j u,0 < j → ([Value.int .i64 e.f0,.int .u8 e.f1.f0,.int .i64 e.f1.f1,.int .i64 e.f1.f2,.int .i64 e.f1.f3,.int .i64 e.f2,.int .i64 e.f3,.int .i64 e.f4.f0,.bool e.f4.f1,.int .i64 e.f4.f2,.int .i64 e.f4.f3,.slice A11 e.f4.f4.length c11,.bool e.f4.f5] : List Value)[j]? = some u → W.cell? ⟨(ad.add (i * 13)).block,(ad.add (i * 13)).off + j,none⟩ = some u := fun j u hj hu => by
    have := hc j u hu
    rwa [add_field ad (i * 13) j hj] at this
  exact ⟨ad,A11,c11,hA,(Kd.R_reads' hR).2.1,hM,hc 0 _ rfl,t 1 _ (by decide) rfl,t 2 _ (by decide) rfl,t 3 _ (by decide) rfl,t 4 _ (by decide) rfl,t 5 _ (by decide) rfl,t 6 _ (by decide) rfl,t 7 _ (by decide) rfl,t 8 _ (by decide) rfl,t 9 _ (by decide) rfl,t 10 _ (by decide) rfl,t 11 _ (by decide) rfl,t 12 _ (by decide) rfl⟩
/-- A row of events that grows, all of it new since a world. -/
structure Grow (w0 W : World) (B : Nat) (v : Value) (xs : List S128) : Prop where
  b : Below w0.heap.size w0 W
  r : Kd.R k128 128 W B (fun _ => True) v xs
  o : ∀ b,v.ownBlock = some b → w0.heap.size ≤ b
theorem Grow.below {w0 W W' : World} {B : Nat} {v : Value} {xs : List S128} (h : Grow w0 W B v xs) (hb : Below W.heap.size W W') : Grow w0 W' B v xs := ⟨below_step h.b hb,Kd.R_below h.r hb,h.o⟩
theorem Grow.next {w0 W w1 : World} {B : Nat} {v v1 : Value} {xs ys : List S128} (h : Grow w0 W B v xs) (hr : Kd.R k128 128 w1 B (fun _ => True) v1 ys) (hg : W.grownBy w1 v.ownBlock) (hat : v1.ownBlock = v.ownBlock ∨ ∃ b,v1.ownBlock = some b ∧ W.heap.size ≤ b) : Grow w0 w1 B v1 ys := by
  refine ⟨h.b.grown hg h.b.size (fun b e => h.o b e),hr,fun b e => ?_⟩
  rcases hat with hat | ⟨b',e',hle⟩
  · exact h.o b (hat ▸ e)
  · rw [e'] at e
    cases e
    exact Nat.le_trans h.b.size hle
/-- What else there was stays. -/
theorem Grow.keep {w0 W w1 : World} {B : Nat} {v : Value} {xs : List S128} (h : Grow w0 W B v xs) (hg : W.grownBy w1 v.ownBlock) {g : Nat} {o : Obj} (hx : W.heap[g]? = some o) (hne : some g ≠ v.ownBlock) : w1.heap[g]? = some o :=
  (hg.block g (Array.getElem?_eq_some_iff.1 hx).1 hne).trans hx
section
variable {ops : Array Oper} {rest : List Oper} {o : Oper} {a : Act} {Q : Exit → Act → World → Prop} {Kc : Act → World → Prop}
/-- append(v, ys...) of events. -/
theorem ev_rows {w0 W : World} {B : Nat} (hB : B ≤ w0.heap.size) (hgd : o.guard = none) (s x : Operand) (ho : o.op = .call { callee := .builtin .append,args := #[s,x],argTypes := #[112,112] })
    (v : Value) (xs ys : List S128) (A : Option Addr) (m c : Nat) (hs : a.eval s = v) (hx : a.eval x = .slice A m c) (HG : Grow w0 W B v xs) (HR : EvRows w0 W B A m ys) (hl : xs.length + m ≤ 100000)
    (h : ∀ v1 w1,Grow w0 w1 B v1 (xs ++ ys) → W.grownBy w1 v.ownBlock → wpList Try.prog ops Q rest (a.put o.dst v1) w1) : wpList Try.prog ops Q (o :: rest) a W := by
  refine Kd.R_append_rows k128 (w0 := w0) B hgd s x 112 128 _ 120 ho Try.underlying112 info128 rfl (by decide) (by omega) v xs ys A m c (fun _ => True) (fun b => b < w0.heap.size) hs hx HG.r HR (fun _ _ h => h) (fun b hb => ⟨trivial,fun e => absurd (HG.o b e.symm) (by omega)⟩) (fun _ _ => trivial) (Below.mono HG.b hB) (Nat.le_trans hB HG.b.size) (by omega) ?_
  intro v1 w1 hr hb hg hat
  exact h v1 w1 (HG.next hr hg hat) hg
theorem ev_rows_step {w0 W : World} {B : Nat} (hB : B ≤ w0.heap.size) (hw : Region.wanted o (yielded ops a.tmps) = true) (s x : Operand) (ho : o.op = .call { callee := .builtin .append,args := #[s,x],argTypes := #[112,112] })
    (v : Value) (xs ys : List S128) (A : Option Addr) (m c : Nat) (hs : a.eval s = v) (hx : a.eval x = .slice A m c) (HG : Grow w0 W B v xs) (HR : EvRows w0 W B A m ys) (hl : xs.length + m ≤ 100000)
    (h : ∀ v1 w1,Grow w0 w1 B v1 (xs ++ ys) → W.grownBy w1 v.ownBlock → Kc (a.put o.dst v1) w1) : if Region.wanted o (yielded ops a.tmps) = true then Oper.wp Try.prog o a W Kc Q else Kc (a.put o.dst undef) W := by
  refine Kd.R_append_rows_step k128 (w0 := w0) B hw s x 112 128 _ 120 ho Try.underlying112 info128 rfl (by decide) (by omega) v xs ys A m c (fun _ => True) (fun b => b < w0.heap.size) hs hx HG.r HR (fun _ _ h => h) (fun b hb => ⟨trivial,fun e => absurd (HG.o b e.symm) (by omega)⟩) (fun _ _ => trivial) (Below.mono HG.b hB) (Nat.le_trans hB HG.b.size) (by omega) ?_
  intro v1 w1 hr hb hg hat
  exact h v1 w1 (HG.next hr hg hat) hg
end
/-- An empty row that is new. -/
theorem Grow.nil {w0 W : World} {B : Nat} (hB : B ≤ w0.heap.size) (hb : Below w0.heap.size w0 W) : Grow w0 (W.alloc (.cells #[] 128)) B (.slice (some ⟨W.heap.size,0,none⟩) 0 0) [] := by
  have h2 := World.ownsRow_lit (base := B) (e := 128) (size := 13) W #[] 0 (Nat.le_trans hB hb.size) (by decide) (by simp)
  refine ⟨below_step hb (below_alloc (Below.refl _ _) _),⟨fun _ _ => trivial,[],h2,⟨rfl,fun j p hj => by simp at hj⟩⟩,fun b e => ?_⟩
  have : W.heap.size = b := by simpa [Value.ownBlock] using e
  have := hb.size
  omega
/-- One event, in a block. -/
theorem EvRows.one {w0 W : World} {B : Nat} {e : S128} {A : Option Addr} {c g : Nat} (hM : k128.M W B (fun b => b < w0.heap.size) e (evL e A c)) (hx : W.heap[g]? = some (.cells (evA e A c) 128 (0,0))) : EvRows w0 W B (some ⟨g,0,none⟩) 1 [e] := by
  refine ⟨rfl,by decide,fun _ => ⟨_,rfl,fun j p hj => ?_⟩⟩
  match j,hj with
  | 0,hj =>
    cases hj
    refine ⟨evL e A c,rfl,hM,fun i u hu => ?_⟩
    have : (⟨g,0,none⟩ : Addr).add (0 * 13 + i) = ⟨g,i,none⟩ := by cases i <;> simp [Addr.add]
    rw [this,cells_cell hx]
    exact hu
  | j + 1,hj => simp at hj
theorem evM_at {w0 W : World} {B : Nat} {e : S128} {cs : List Value} (h : k128.M w0 B (fun b => b < w0.heap.size) e cs) (hb : Below w0.heap.size w0 W) : k128.M W B (fun b => b < w0.heap.size) e cs :=
  evM_below h (fun b h _ => h) (fun b _ h => hb.block b h)
end Go.Proofs.Ytkoiffkonjpoiaa.Q
namespace Go.Proofs.Ytkoiffkonjpoiaa.Q
open Go.RowKit Go.Proofs.YtkoiffkonjpoiaaW.PrintWords Go.Proofs.YtkoiffkonjpoiaaW.PrintLast Go.Proofs.YtkoiffkonjpoiaaW.PrintMore Go.Proofs.YtkoiffkonjpoiaaX
attribute [local go_sem] max2_int min2_int max_two min_two max_three min_three max_four min_four
set_option linter.unusedVariables false
set_option linter.unusedSimpArgs false
theorem wrap_small (n : Nat) (h : n < 1000000) : wrap64 (n : Int) = (n : Int) := by unfold wrap64;omega
set_option maxHeartbeats 8000000 in
set_option maxRecDepth 100000 in
theorem Turned.calls (A1 : Option Addr) (c1 : Nat) (l : List S128) (A2 : Option Addr) (c2 : Nat) (by_ : List Int) (B : Nat) (w : World) (hr1 : Kd.R k128 128 w B (fun _ => True) (.slice A1 l.length c1) l) (hBw0 : B ≤ w.heap.size) (hr2 : Kd.C (Kd.int .u8) w A2 by_.length by_) (hc2 : by_.length ≤ c2) (hb : okBs by_) (hn : l.length ≤ 1000) :
    Calls Try.prog 87 #[.slice A1 l.length c1,.slice A2 by_.length c2] w fun e w' => ∃ v,e = .returned v ∧ Kd.R k128 128 w' B (fun _ => True) v (Turned.f l by_) ∧ Below w.heap.size w w' := by
  have hu128 := Try.underlying128
  obtain ⟨A1',c1',e1,hc1,hE⟩ := EvRows.of hr1
  injection e1 with e1 _ e2
  subst e1
  subst e2
  have HEv := Lib.hid hE
  have HC1 := Lib.hid hc1
  have HR2 := Lib.hid hr2
  have HC2 := Lib.hid hc2
  have HBy := Lib.hid hb
  have hl2 := hr2.2.1
  have H0 : Hid (turnGo by_ [] (l.drop 0) = Turned.f l by_) := Lib.hid rfl
  have HG0 : Hid (Grow w w B (.slice none 0 0) []) := Lib.hid ⟨Below.refl _ _,Kd.R_nil _ _ _ _ _,fun b hb => by simp [Value.ownBlock] at hb⟩
  clear hr1 hc1 hE hr2 hc2 hb
  go_enter Try.func87,Try.ntmps87
  go_wp2_with fail
  go_loopg [11,5] l.length (fun gk v11 v5 W => ∃ (i : Nat) (out : List S128),v11 = .int .i64 (i : Int) ∧ i ≤ l.length ∧ l.length - i ≤ gk ∧ out.length = i ∧ Hid (turnGo by_ out (l.drop i) = Turned.f l by_) ∧ Hid (Grow w W B v5 out))
  case atStart => exact ⟨0,[],rfl,by omega,by omega,rfl,H0,HG0⟩
  case round =>
    clear H0 HG0
    obtain ⟨i,out,rfl,hi1,hgk,hol,H,HG⟩ := hrel
    by_cases hi : i < l.length
    · obtain ⟨e,he⟩ : ∃ e,e = rd_T128 l (i : Int) := ⟨_,rfl⟩
      have hdrop : l.drop i = e :: l.drop (i + 1) := by
        rw [List.drop_eq_getElem_cons hi,he]
        simp [rd_T128,hi]
      have h := H.out
      rw [hdrop,turnGo,hol] at h
      obtain ⟨m,hm⟩ : ∃ m,m = turnAt by_ i := ⟨_,rfl⟩
      rw [← hm] at h
      have hmi : m ≤ i := by rw [hm];exact turnAt_le _ _
      have HM0 := Lib.hid hm
      have HN := Lib.hid h
      obtain ⟨ad,A11,c11,e1,l11,hM,x0,x1,x2,x3,x4,x5,x6,x7,x8,x9,x10,x11,x12⟩ := EvRows.get (EvRows.at0 HEv.out HG.out.b) i hi e he
      have HM1 := Lib.hid hM
      clear he hdrop h H hm hM l11
      cases e1
      have hid : decide ((i : Int) < (l.length : Int)) = true := decide_eq_true (by omega)
      have hiw : IntKind.i64.wrap ((i : Int) + 1) = (i : Int) + 1 := by rw [IntKind.wrap_i64];omega
      have HOL := Lib.hid hol
      have hol1 : out.length ≤ i := by omega
      have hol2 : i ≤ out.length := by omega
      clear hol
      go_upto_block 1 with (fail)
      go_cut [5,6,7,8] (fun v5 v6 v7 v8 wc => Hid (Grow w wc B v5 (insAt out m e)))
      case rest =>
        have HG5 := hcut
        clear hcut x0 x1 x2 x3 x4 x5 x6 x7 x8 x9 x10 x11 x12
        go_wp2_with fail
        go_roundg (l.length - (i + 1))
        case rel => exact ⟨i + 1,insAt out m e,by first | rfl | exact congrArg _ hiw | (simp [hiw]),by omega,by omega,by rw [insAt_length,HOL.out],HN,HG5⟩
        all_goals omega
      go_upto_region 5 with (fail)
      refine find.settle (p := fun W => Code.wp _ _ _ _ W) (R := fun W => Hid (W.heap[wr.heap.size]? = some (.cells (evA e A11 c11) 128 (0,0))) ∧ Hid (Below wr.heap.size wr W)) ⟨Lib.hid (heap_alloc_new _ _),Lib.hid (below_alloc (Below.refl _ _) _)⟩ ?_
      clear x0 x1 x2 x3 x4 x5 x6 x7 x8 x9 x10 x11 x12
      rintro w3 ⟨HX,BS⟩
      have HM : Hid (k128.M w3 B (fun b => b < w3.heap.size) e (evL e A11 c11)) := Lib.hid (evM_below HM1.out (fun b h h2 => Nat.lt_of_lt_of_le h2 BS.out.size) (fun b h _ => BS.out.block b h))
      have hsz : w.heap.size ≤ w3.heap.size := Nat.le_trans HG.out.b.size BS.out.size
      have hBw : B ≤ w3.heap.size := Nat.le_trans hBw0 hsz
      have HGw := Lib.hid (HG.out.below BS.out)
      have HB := Lib.hid HG.out.b
      obtain ⟨Ao,co,eo,hco,hEo⟩ := EvRows.of HGw.out.r
      subst eo
      have hmo : m ≤ out.length := by omega
      have HT := Lib.hid (EvRows.take hEo hmo)
      obtain ⟨Ad,hAd⟩ : ∃ Ad,Ad = if co = m then Ao else Ao.map (·.add (m * 13)) := ⟨_,rfl⟩
      have hdr := EvRows.drop hEo hmo hco
      rw [← hAd] at hdr
      have HDr := Lib.hid hdr
      obtain ⟨i0,hi0,hz0,hs0,hb0⟩ := info_parts info128
      have hcut1 := cut_to (P := Try.prog) 112 128 .i64 Try.underlying112 hi0 Ao out.length co (m : Int) (by omega) (by omega) hco
      have hcut2 := cut_from (P := Try.prog) 112 128 .i64 Try.underlying112 hi0 13 hs0 Ao out.length co (m : Int) (by omega) (by omega)
      rw [Int.toNat_natCast] at hcut1
      rw [Int.toNat_natCast,← hAd] at hcut2
      have HL11 := Lib.hid HGw.out.o
      clear hAd hdr hEo HG HM1 hi0 hz0 hs0 hb0
      have HR23 := Lib.hid (Kd.C_below (Kd.C_below HR2.out HB.out) BS.out)
      have HB3 := Lib.hid (below_step HB.out BS.out)
      generalize wr.heap.size = gE at *
      clear BS HB
      go_upto_if 21 with (fail)
      go_cut [8,21] (fun v8 v21 wc => v8 = .int .i64 (m : Int) ∧ wc = w3)
      case first =>
        by_cases hib : i < by_.length
        · obtain ⟨ad2,e2,y0⟩ := Kd.at_int HR23.out (i : Int) (by omega) (by omega)
          cases e2
          rw [Int.toNat_natCast] at y0
          obtain ⟨x,hx⟩ : ∃ x,x = rd by_ (i : Int) := ⟨_,rfl⟩
          rw [← hx] at y0
          have hxb := HBy.out x (by rw [hx];simp [rd,hib])
          obtain ⟨n,rfl⟩ := Int.eq_ofNat_of_zero_le hxb.1
          have hmn : (n : Int).tmod ((i : Int) + 1) = (m : Int) := by
            have h1 := HM0.out
            unfold turnAt at h1
            rw [if_pos hib] at h1
            have h2 : by_.getD i 0 = (n : Int) := hx.symm
            rw [h2,Int.toNat_natCast] at h1
            rw [h1]
            show (n : Int).tmod ((i + 1 : Nat) : Int) = _
            rw [← Int.ofNat_tmod]
          have hne : ((i : Int) + 1 == 0) = false := by rw [beq_eq_false_iff_ne];omega
          have hne2 : ¬ ((i : Int) + 1 = 0) := by omega
          have hne3 : decide ((i : Int) + 1 = 0) = false := decide_eq_false hne2
          have hlt : decide ((i : Int) < (by_.length : Int)) = true := decide_eq_true (by omega)
          have hol3 : (out.length : Int) = (i : Int) := by omega
          have hlw := wrap_small (i + 1) (by omega)
          have hxw := wrap_small n (by have := hxb.2;omega)
          have hlw2 : wrap64 ((i : Int) + 1) = (i : Int) + 1 := hlw
          clear hlw
          have Hxb := Lib.hid hxb
          clear hx hxb
          go_wp2_with fail
          go_meet
          case rel => exact ⟨rfl,rfl⟩
        · have hlt : decide ((i : Int) < (by_.length : Int)) = false := decide_eq_false (by omega)
          have hmn : (m : Int) = (i : Int) := by
            have h1 := HM0.out
            unfold turnAt at h1
            rw [if_neg hib] at h1
            omega
          have hol3 : (out.length : Int) = (i : Int) := by omega
          go_wp2_with fail
          go_meet
          case rel => exact ⟨by rw [hmn,hol3],rfl⟩
      case rest =>
        obtain ⟨rfl,hwc⟩ := hcut
        rw [hwc]
        clear hwc
        go_upto_region 8 with (fail)
        refine start_ (n := 13) (S := fun w' => w'.cell? ⟨gE,0,none⟩ = some (.int .i64 e.f0) ∧ w'.cell? ⟨gE,1,none⟩ = some (.int .u8 e.f1.f0) ∧ w'.cell? ⟨gE,2,none⟩ = some (.int .i64 e.f1.f1) ∧ w'.cell? ⟨gE,3,none⟩ = some (.int .i64 e.f1.f2) ∧ w'.cell? ⟨gE,4,none⟩ = some (.int .i64 e.f1.f3) ∧ w'.cell? ⟨gE,5,none⟩ = some (.int .i64 e.f2) ∧ w'.cell? ⟨gE,6,none⟩ = some (.int .i64 e.f3) ∧ w'.cell? ⟨gE,7,none⟩ = some (.int .i64 e.f4.f0) ∧ w'.cell? ⟨gE,8,none⟩ = some (.bool e.f4.f1) ∧ w'.cell? ⟨gE,9,none⟩ = some (.int .i64 e.f4.f2) ∧ w'.cell? ⟨gE,10,none⟩ = some (.int .i64 e.f4.f3) ∧ w'.cell? ⟨gE,11,none⟩ = some (.slice A11 e.f4.f4.length c11) ∧ w'.cell? ⟨gE,12,none⟩ = some (.bool e.f4.f5)) (ds := []) #[false,false,false,false,false,false,false,false,false,false,false,false,false] (by kernel_rfl) rfl rfl (ev_cells HX.out) (fun hHeld => ?_)
        have hB0 : Hid (Below w3.heap.size w3 w3.drew) := Lib.hid (below_drew (Below.refl _ _))
        generalize w3.drew = w4 at hB0 hHeld ⊢
        refine pure_ (i := 1) (N := some 32) (v := ?_) (a' := ?_) #[false,true,false,false,false,false,false,false,false,false,false,false,false] rfl rfl (by kernel_rfl) (fun _ _ _ h => h) (Or.inl ⟨by rfl,?_⟩) ?_ ?_
        rotate_left
        · intro w'
          go_simp
          with_reducible rfl
        rotate_left
        · simp only [Act.put,List.setIfInBounds_toArray,List.set_cons_zero,List.set_cons_succ,i64_w,i32_w]
          rfl
        refine pure_ (i := 2) (N := some 33) (v := ?_) (a' := ?_) #[false,true,true,false,false,false,false,false,false,false,false,false,false] rfl rfl (by kernel_rfl) (fun _ _ _ h => h) (Or.inl ⟨by rfl,?_⟩) ?_ ?_
        rotate_left
        · intro w'
          go_simp
          with_reducible rfl
        rotate_left
        · simp only [Act.put,List.setIfInBounds_toArray,List.set_cons_zero,List.set_cons_succ,i64_w,i32_w]
          rfl
        refine pure_ (i := 3) (N := some 34) (v := ?_) (a' := ?_) #[false,true,true,true,false,false,false,false,false,false,false,false,false] rfl rfl (by kernel_rfl) (fun _ _ _ h => h) (Or.inl ⟨by rfl,?_⟩) ?_ ?_
        rotate_left
        · intro w'
          go_simp
          with_reducible rfl
        rotate_left
        · simp only [Act.put,List.setIfInBounds_toArray,List.set_cons_zero,List.set_cons_succ,i64_w,i32_w]
          rfl
        refine pure_ (i := 8) (N := some 39) (v := ?_) (a' := ?_) #[false,true,true,true,false,false,false,false,true,false,false,false,false] rfl rfl (by kernel_rfl) (fun _ _ _ h => h) (Or.inl ⟨by rfl,?_⟩) ?_ ?_
        rotate_left
        · intro w'
          go_simp
          with_reducible rfl
        rotate_left
        · simp only [Act.put,List.setIfInBounds_toArray,List.set_cons_zero,List.set_cons_succ,i64_w,i32_w]
          rfl
        refine pure_ (i := 9) (N := some 40) (v := ?_) (a' := ?_) #[false,true,true,true,false,false,false,false,true,true,false,false,false] rfl rfl (by kernel_rfl) (fun _ _ _ h => h) (Or.inl ⟨by rfl,?_⟩) ?_ ?_
        rotate_left
        · intro w'
          go_simp
          with_reducible rfl
        rotate_left
        · simp only [Act.put,List.setIfInBounds_toArray,List.set_cons_zero,List.set_cons_succ,i64_w,i32_w]
          rfl
        refine pure_ (i := 10) (N := some 41) (v := ?_) (a' := ?_) #[false,true,true,true,false,false,false,false,true,true,true,false,false] rfl rfl (by kernel_rfl) (fun _ _ _ h => h) (Or.inl ⟨by rfl,?_⟩) ?_ ?_
        rotate_left
        · intro w'
          go_simp
          with_reducible rfl
        rotate_left
        · simp only [Act.put,List.setIfInBounds_toArray,List.set_cons_zero,List.set_cons_succ,i64_w,i32_w]
          rfl
        refine take_ (i := 5) (N := some 36) (v := ?_) (a' := ?_) #[false,true,true,true,false,true,false,false,true,true,true,false,false] rfl rfl (by kernel_rfl) (fun _ _ _ h => h) (Or.inl ⟨by rfl,?_⟩) hHeld ?_ ?_
        rotate_left
        · rintro w' ⟨s0,s1,s2,s3,s4,s5,s6,s7,s8,s9,s10,s11,s12⟩
          go_simp
          with_reducible rfl
        rotate_left
        · simp only [Act.put,List.setIfInBounds_toArray,List.set_cons_zero,List.set_cons_succ,i64_w,i32_w]
          rfl
        refine two_ (i := 0) (j := 6) (Ni := some 31) (Nj := some 37) #[true,true,true,true,false,true,false,false,true,true,true,false,false] #[false,true,true,true,false,true,true,false,true,true,true,false,false] rfl rfl rfl rfl (by kernel_rfl) (by decide) (by decide) (fun K hK => ?_) (fun K hK => ?_)
        · skip
          refine value_ (w1 := ?_) (v := ?_) (by rfl) rfl ?_ ?_
          rotate_left 2
          · go_simp
            constructor
            · rfl
            · rfl
          obtain ⟨w5,hw1,hB1,hG1⟩ : ∃ W,W = w4.alloc (.cells #[] 128) ∧ Hid (Below w3.heap.size w3 W) ∧ Hid (Grow w3 W B (.slice (some ⟨w4.heap.size,0,none⟩) 0 0) []) := ⟨_,rfl,Lib.hid (below_step hB0.out (below_alloc (Below.refl _ _) _)),Lib.hid (Grow.nil (B := B) (w0 := w3) hBw hB0.out)⟩
          show K _ (w4.alloc (.cells #[] 128))
          rw [← hw1]
          clear hw1
          refine hK.out _ _ (ev_cells (blk_below HX.out hB1.out)) (fun hHeld => ?_)
          clear hK K
          refine norm_ (a' := ?_) ?_ ?_
          rotate_left
          · show Act.put _ (some 31) _ = _
            simp only [Act.put,List.setIfInBounds_toArray,List.set_cons_zero,List.set_cons_succ,i64_w,i32_w]
            rfl
          refine two_ (i := 4) (j := 6) (Ni := some 35) (Nj := some 37) #[true,true,true,true,true,true,false,false,true,true,true,false,false] #[true,true,true,true,false,true,true,false,true,true,true,false,false] rfl rfl rfl rfl (by kernel_rfl) (by decide) (by decide) (fun K hK => ?_) (fun K hK => ?_)
          · skip
            refine ev_rows_step (w0 := w3) (B := B) hBw (by rfl) (.tmp 31) (.tmp 34) rfl (.slice (some ⟨w4.heap.size,0,none⟩) 0 0) [] (out.take m) Ao (m) (co) rfl rfl hG1.out (EvRows.at0 HT.out hB1.out) (by simp;omega) ?_
            intro v35 w6 hg hgr
            have hG2 := Lib.hid hg
            have hB2 := Lib.hid hg.b
            clear hg hgr
            refine hK.out _ _ (ev_cells (blk_below HX.out hB2.out)) (fun hHeld => ?_)
            clear hK K
            refine norm_ (a' := ?_) ?_ ?_
            rotate_left
            · show Act.put _ (some 35) _ = _
              simp only [Act.put,List.setIfInBounds_toArray,List.set_cons_zero,List.set_cons_succ,i64_w,i32_w]
              rfl
            refine one_ (i := 6) (N := some 37) #[true,true,true,true,true,true,true,false,true,true,true,false,false] rfl rfl (by kernel_rfl) (by decide) (fun K hK => ?_)
            refine value_ (w1 := ?_) (v := ?_) (by rfl) rfl ?_ ?_
            rotate_left 2
            · go_simp
              constructor
              · rfl
              · rfl
            have hN3 : Hid (some w6.heap.size ≠ (v35 : Value).ownBlock) := Lib.hid (fun h => by have h1 := Kd.R_lt hG2.out.r _ h.symm;omega)
            obtain ⟨w7,hw3,hB3,hG3,hX3⟩ : ∃ W,W = w6.alloc (.cells (evA e A11 c11) 128) ∧ Hid (Below w3.heap.size w3 W) ∧ Hid (Grow w3 W B v35 ([] ++ out.take m)) ∧ Hid (W.heap[w6.heap.size]? = some (.cells (evA e A11 c11) 128 (0,0))) := ⟨_,rfl,Lib.hid (below_step hB2.out (below_alloc (Below.refl _ _) _)),Lib.hid (hG2.out.below (below_alloc (Below.refl _ _) _)),Lib.hid (heap_alloc_new _ _)⟩
            show K _ (w6.alloc (.cells (evA e A11 c11) 128))
            rw [← hw3]
            clear hw3
            refine hK.out _ _ (ev_cells (blk_below HX.out hB3.out)) (fun hHeld => ?_)
            clear hK K
            refine norm_ (a' := ?_) ?_ ?_
            rotate_left
            · show Act.put _ (some 37) _ = _
              simp only [Act.put,List.setIfInBounds_toArray,List.set_cons_zero,List.set_cons_succ,i64_w,i32_w]
              rfl
            refine one_ (i := 7) (N := some 38) #[true,true,true,true,true,true,true,true,true,true,true,false,false] rfl rfl (by kernel_rfl) (by decide) (fun K hK => ?_)
            refine ev_rows_step (w0 := w3) (B := B) hBw (by rfl) (.tmp 35) (.tmp 37) rfl v35 ([] ++ out.take m) ([e]) _ (1) (1) rfl rfl hG3.out (EvRows.one (evM_at HM.out hB3.out) hX3.out) (by simp;omega) ?_
            intro v38 w8 hg hgr
            have hG4 := Lib.hid hg
            have hB4 := Lib.hid hg.b
            clear hg hgr
            refine hK.out _ _ (ev_cells (blk_below HX.out hB4.out)) (fun hHeld => ?_)
            clear hK K
            refine norm_ (a' := ?_) ?_ ?_
            rotate_left
            · show Act.put _ (some 38) _ = _
              simp only [Act.put,List.setIfInBounds_toArray,List.set_cons_zero,List.set_cons_succ,i64_w,i32_w]
              rfl
            refine one_ (i := 11) (N := some 42) #[true,true,true,true,true,true,true,true,true,true,true,true,false] rfl rfl (by kernel_rfl) (by decide) (fun K hK => ?_)
            refine ev_rows_step (w0 := w3) (B := B) hBw (by rfl) (.tmp 38) (.tmp 41) rfl v38 (([] ++ out.take m) ++ [e]) (out.drop m) Ad (out.length - m) (co - m) rfl rfl hG4.out (EvRows.at0 HDr.out hB4.out) (by simp;omega) ?_
            intro v42 w9 hg hgr
            have hG5 := Lib.hid hg
            have hB5 := Lib.hid hg.b
            clear hg hgr
            refine hK.out _ _ (ev_cells (blk_below HX.out hB5.out)) (fun hHeld => ?_)
            clear hK K
            refine norm_ (a' := ?_) ?_ ?_
            rotate_left
            · show Act.put _ (some 42) _ = _
              simp only [Act.put,List.setIfInBounds_toArray,List.set_cons_zero,List.set_cons_succ,i64_w,i32_w]
              rfl
            refine pure_ (i := 12) (N := some 5) (v := ?_) (a' := ?_) #[true,true,true,true,true,true,true,true,true,true,true,true,true] rfl rfl (by kernel_rfl) (fun _ _ _ h => h) (Or.inl ⟨by rfl,?_⟩) ?_ ?_
            rotate_left
            · intro w'
              go_simp
              with_reducible rfl
            rotate_left
            · simp only [Act.put,List.setIfInBounds_toArray,List.set_cons_zero,List.set_cons_succ,i64_w,i32_w]
              rfl
            refine done_ (by kernel_rfl) ?_
            go_wp2_with fail
            go_meet
            case rel => exact Lib.hid ⟨below_step HB3.out hG5.out.b,by have h := hG5.out.r;simpa [insAt] using h,fun b hb => Nat.le_trans hsz (hG5.out.o b hb)⟩
          · skip
            refine value_ (w1 := ?_) (v := ?_) (by rfl) rfl ?_ ?_
            rotate_left 2
            · go_simp
              constructor
              · rfl
              · rfl
            have hN6 : Hid (some w5.heap.size ≠ ((.slice (some ⟨w4.heap.size,0,none⟩) 0 0) : Value).ownBlock) := Lib.hid (fun h => by have h1 := Kd.R_lt hG1.out.r _ h.symm;omega)
            obtain ⟨w10,hw6,hB6,hG6,hX6⟩ : ∃ W,W = w5.alloc (.cells (evA e A11 c11) 128) ∧ Hid (Below w3.heap.size w3 W) ∧ Hid (Grow w3 W B (.slice (some ⟨w4.heap.size,0,none⟩) 0 0) []) ∧ Hid (W.heap[w5.heap.size]? = some (.cells (evA e A11 c11) 128 (0,0))) := ⟨_,rfl,Lib.hid (below_step hB1.out (below_alloc (Below.refl _ _) _)),Lib.hid (hG1.out.below (below_alloc (Below.refl _ _) _)),Lib.hid (heap_alloc_new _ _)⟩
            show K _ (w5.alloc (.cells (evA e A11 c11) 128))
            rw [← hw6]
            clear hw6
            refine hK.out _ _ (ev_cells (blk_below HX.out hB6.out)) (fun hHeld => ?_)
            clear hK K
            refine norm_ (a' := ?_) ?_ ?_
            rotate_left
            · show Act.put _ (some 37) _ = _
              simp only [Act.put,List.setIfInBounds_toArray,List.set_cons_zero,List.set_cons_succ,i64_w,i32_w]
              rfl
            refine one_ (i := 4) (N := some 35) #[true,true,true,true,true,true,true,false,true,true,true,false,false] rfl rfl (by kernel_rfl) (by decide) (fun K hK => ?_)
            refine ev_rows_step (w0 := w3) (B := B) hBw (by rfl) (.tmp 31) (.tmp 34) rfl (.slice (some ⟨w4.heap.size,0,none⟩) 0 0) [] (out.take m) Ao (m) (co) rfl rfl hG6.out (EvRows.at0 HT.out hB6.out) (by simp;omega) ?_
            intro v35 w11 hg hgr
            have hG7 := Lib.hid hg
            have hB7 := Lib.hid hg.b
            have hX7 := Lib.hid (hG6.out.keep hgr hX6.out hN6.out)
            clear hg hgr
            refine hK.out _ _ (ev_cells (blk_below HX.out hB7.out)) (fun hHeld => ?_)
            clear hK K
            refine norm_ (a' := ?_) ?_ ?_
            rotate_left
            · show Act.put _ (some 35) _ = _
              simp only [Act.put,List.setIfInBounds_toArray,List.set_cons_zero,List.set_cons_succ,i64_w,i32_w]
              rfl
            refine one_ (i := 7) (N := some 38) #[true,true,true,true,true,true,true,true,true,true,true,false,false] rfl rfl (by kernel_rfl) (by decide) (fun K hK => ?_)
            refine ev_rows_step (w0 := w3) (B := B) hBw (by rfl) (.tmp 35) (.tmp 37) rfl v35 ([] ++ out.take m) ([e]) _ (1) (1) rfl rfl hG7.out (EvRows.one (evM_at HM.out hB7.out) hX7.out) (by simp;omega) ?_
            intro v38 w12 hg hgr
            have hG8 := Lib.hid hg
            have hB8 := Lib.hid hg.b
            clear hg hgr
            refine hK.out _ _ (ev_cells (blk_below HX.out hB8.out)) (fun hHeld => ?_)
            clear hK K
            refine norm_ (a' := ?_) ?_ ?_
            rotate_left
            · show Act.put _ (some 38) _ = _
              simp only [Act.put,List.setIfInBounds_toArray,List.set_cons_zero,List.set_cons_succ,i64_w,i32_w]
              rfl
            refine one_ (i := 11) (N := some 42) #[true,true,true,true,true,true,true,true,true,true,true,true,false] rfl rfl (by kernel_rfl) (by decide) (fun K hK => ?_)
            refine ev_rows_step (w0 := w3) (B := B) hBw (by rfl) (.tmp 38) (.tmp 41) rfl v38 (([] ++ out.take m) ++ [e]) (out.drop m) Ad (out.length - m) (co - m) rfl rfl hG8.out (EvRows.at0 HDr.out hB8.out) (by simp;omega) ?_
            intro v42 w13 hg hgr
            have hG9 := Lib.hid hg
            have hB9 := Lib.hid hg.b
            clear hg hgr
            refine hK.out _ _ (ev_cells (blk_below HX.out hB9.out)) (fun hHeld => ?_)
            clear hK K
            refine norm_ (a' := ?_) ?_ ?_
            rotate_left
            · show Act.put _ (some 42) _ = _
              simp only [Act.put,List.setIfInBounds_toArray,List.set_cons_zero,List.set_cons_succ,i64_w,i32_w]
              rfl
            refine pure_ (i := 12) (N := some 5) (v := ?_) (a' := ?_) #[true,true,true,true,true,true,true,true,true,true,true,true,true] rfl rfl (by kernel_rfl) (fun _ _ _ h => h) (Or.inl ⟨by rfl,?_⟩) ?_ ?_
            rotate_left
            · intro w'
              go_simp
              with_reducible rfl
            rotate_left
            · simp only [Act.put,List.setIfInBounds_toArray,List.set_cons_zero,List.set_cons_succ,i64_w,i32_w]
              rfl
            refine done_ (by kernel_rfl) ?_
            go_wp2_with fail
            go_meet
            case rel => exact Lib.hid ⟨below_step HB3.out hG9.out.b,by have h := hG9.out.r;simpa [insAt] using h,fun b hb => Nat.le_trans hsz (hG9.out.o b hb)⟩
        · skip
          refine value_ (w1 := ?_) (v := ?_) (by rfl) rfl ?_ ?_
          rotate_left 2
          · go_simp
            constructor
            · rfl
            · rfl
          obtain ⟨w14,hw10,hB10,hX10⟩ : ∃ W,W = w4.alloc (.cells (evA e A11 c11) 128) ∧ Hid (Below w3.heap.size w3 W) ∧ Hid (W.heap[w4.heap.size]? = some (.cells (evA e A11 c11) 128 (0,0))) := ⟨_,rfl,Lib.hid (below_step hB0.out (below_alloc (Below.refl _ _) _)),Lib.hid (heap_alloc_new _ _)⟩
          show K _ (w4.alloc (.cells (evA e A11 c11) 128))
          rw [← hw10]
          clear hw10
          refine hK.out _ _ (ev_cells (blk_below HX.out hB10.out)) (fun hHeld => ?_)
          clear hK K
          refine norm_ (a' := ?_) ?_ ?_
          rotate_left
          · show Act.put _ (some 37) _ = _
            simp only [Act.put,List.setIfInBounds_toArray,List.set_cons_zero,List.set_cons_succ,i64_w,i32_w]
            rfl
          refine one_ (i := 0) (N := some 31) #[true,true,true,true,false,true,true,false,true,true,true,false,false] rfl rfl (by kernel_rfl) (by decide) (fun K hK => ?_)
          refine value_ (w1 := ?_) (v := ?_) (by rfl) rfl ?_ ?_
          rotate_left 2
          · go_simp
            constructor
            · rfl
            · rfl
          have hN11 : Hid (some w4.heap.size ≠ (Value.slice (some ⟨w14.heap.size,0,none⟩) 0 0).ownBlock) := Lib.hid (fun h => by have h1 := (Array.getElem?_eq_some_iff.1 hX10.out).1;have h2 : w14.heap.size = w4.heap.size := (by simpa [Value.ownBlock] using h.symm);omega)
          obtain ⟨w15,hw11,hB11,hG11,hX11⟩ : ∃ W,W = w14.alloc (.cells #[] 128) ∧ Hid (Below w3.heap.size w3 W) ∧ Hid (Grow w3 W B (.slice (some ⟨w14.heap.size,0,none⟩) 0 0) []) ∧ Hid (W.heap[w4.heap.size]? = some (.cells (evA e A11 c11) 128 (0,0))) := ⟨_,rfl,Lib.hid (below_step hB10.out (below_alloc (Below.refl _ _) _)),Lib.hid (Grow.nil (B := B) (w0 := w3) hBw hB10.out),Lib.hid (blk_alloc hX10.out _)⟩
          show K _ (w14.alloc (.cells #[] 128))
          rw [← hw11]
          clear hw11
          refine hK.out _ _ (ev_cells (blk_below HX.out hB11.out)) (fun hHeld => ?_)
          clear hK K
          refine norm_ (a' := ?_) ?_ ?_
          rotate_left
          · show Act.put _ (some 31) _ = _
            simp only [Act.put,List.setIfInBounds_toArray,List.set_cons_zero,List.set_cons_succ,i64_w,i32_w]
            rfl
          refine one_ (i := 4) (N := some 35) #[true,true,true,true,true,true,true,false,true,true,true,false,false] rfl rfl (by kernel_rfl) (by decide) (fun K hK => ?_)
          refine ev_rows_step (w0 := w3) (B := B) hBw (by rfl) (.tmp 31) (.tmp 34) rfl (.slice (some ⟨w14.heap.size,0,none⟩) 0 0) [] (out.take m) Ao (m) (co) rfl rfl hG11.out (EvRows.at0 HT.out hB11.out) (by simp;omega) ?_
          intro v35 w16 hg hgr
          have hG12 := Lib.hid hg
          have hB12 := Lib.hid hg.b
          have hX12 := Lib.hid (hG11.out.keep hgr hX11.out hN11.out)
          clear hg hgr
          refine hK.out _ _ (ev_cells (blk_below HX.out hB12.out)) (fun hHeld => ?_)
          clear hK K
          refine norm_ (a' := ?_) ?_ ?_
          rotate_left
          · show Act.put _ (some 35) _ = _
            simp only [Act.put,List.setIfInBounds_toArray,List.set_cons_zero,List.set_cons_succ,i64_w,i32_w]
            rfl
          refine one_ (i := 7) (N := some 38) #[true,true,true,true,true,true,true,true,true,true,true,false,false] rfl rfl (by kernel_rfl) (by decide) (fun K hK => ?_)
          refine ev_rows_step (w0 := w3) (B := B) hBw (by rfl) (.tmp 35) (.tmp 37) rfl v35 ([] ++ out.take m) ([e]) _ (1) (1) rfl rfl hG12.out (EvRows.one (evM_at HM.out hB12.out) hX12.out) (by simp;omega) ?_
          intro v38 w17 hg hgr
          have hG13 := Lib.hid hg
          have hB13 := Lib.hid hg.b
          clear hg hgr
          refine hK.out _ _ (ev_cells (blk_below HX.out hB13.out)) (fun hHeld => ?_)
          clear hK K
          refine norm_ (a' := ?_) ?_ ?_
          rotate_left
          · show Act.put _ (some 38) _ = _
            simp only [Act.put,List.setIfInBounds_toArray,List.set_cons_zero,List.set_cons_succ,i64_w,i32_w]
            rfl
          refine one_ (i := 11) (N := some 42) #[true,true,true,true,true,true,true,true,true,true,true,true,false] rfl rfl (by kernel_rfl) (by decide) (fun K hK => ?_)
          refine ev_rows_step (w0 := w3) (B := B) hBw (by rfl) (.tmp 38) (.tmp 41) rfl v38 (([] ++ out.take m) ++ [e]) (out.drop m) Ad (out.length - m) (co - m) rfl rfl hG13.out (EvRows.at0 HDr.out hB13.out) (by simp;omega) ?_
          intro v42 w18 hg hgr
          have hG14 := Lib.hid hg
          have hB14 := Lib.hid hg.b
          clear hg hgr
          refine hK.out _ _ (ev_cells (blk_below HX.out hB14.out)) (fun hHeld => ?_)
          clear hK K
          refine norm_ (a' := ?_) ?_ ?_
          rotate_left
          · show Act.put _ (some 42) _ = _
            simp only [Act.put,List.setIfInBounds_toArray,List.set_cons_zero,List.set_cons_succ,i64_w,i32_w]
            rfl
          refine pure_ (i := 12) (N := some 5) (v := ?_) (a' := ?_) #[true,true,true,true,true,true,true,true,true,true,true,true,true] rfl rfl (by kernel_rfl) (fun _ _ _ h => h) (Or.inl ⟨by rfl,?_⟩) ?_ ?_
          rotate_left
          · intro w'
            go_simp
            with_reducible rfl
          rotate_left
          · simp only [Act.put,List.setIfInBounds_toArray,List.set_cons_zero,List.set_cons_succ,i64_w,i32_w]
            rfl
          refine done_ (by kernel_rfl) ?_
          go_wp2_with fail
          go_meet
          case rel => exact Lib.hid ⟨below_step HB3.out hG14.out.b,by have h := hG14.out.r;simpa [insAt] using h,fun b hb => Nat.le_trans hsz (hG14.out.o b hb)⟩
    · obtain rfl : i = l.length := by omega
      have hid : decide ((l.length : Int) < (l.length : Int)) = false := decide_eq_false (by omega)
      have hh : out = Turned.f l by_ := by
        have h := H.out
        rw [List.drop_length] at h
        exact h
      subst hh
      go_wp2_with fail
      go_ret
      exact ⟨_,rfl,HG.out.r,HG.out.b⟩
end Go.Proofs.Ytkoiffkonjpoiaa.Q
namespace Go.Proofs.Ytkoiffkonjpoiaa.Q
open Go.RowKit Go.Proofs.YtkoiffkonjpoiaaW.PrintWords Go.Proofs.YtkoiffkonjpoiaaW.PrintLast Go.Proofs.YtkoiffkonjpoiaaW.PrintMore Go.Proofs.YtkoiffkonjpoiaaX
attribute [local go_sem] max2_int min2_int max_two min_two max_three min_three max_four min_four
set_option linter.unusedVariables false
set_option linter.unusedSimpArgs false
/-- A cell of an event of one's own is written. -/
theorem ev_seg {W : World} {B g cap j : Nat} {l : List S128} {e x' : S128} {A : Option Addr} {c : Nat} (HR : Kd.R k128 128 W B (fun _ => True) (.slice (some ⟨g,0,none⟩) l.length cap) l) (hj : j < l.length) (hcc : ∀ i u,(evL e A c)[i]? = some u → W.cell? ⟨g,j * 13 + i,none⟩ = some u) (q : Nat) (hq : q < 13) (u : Value) {o : Nat} (ho : o = j * 13 + q)
    (hM : k128.M W B (fun b => True ∧ b ≠ g) x' ((evL e A c).take q ++ [u] ++ (evL e A c).drop (q + 1))) : Kd.R k128 128 (W.setCell ⟨g,o,none⟩ u) B (fun _ => True) (.slice (some ⟨g,0,none⟩) l.length cap) (l.set j x') := by
  subst ho
  exact (Kd.R_seg HR (j : Int) (by omega) (by omega) (c := evL e A c) (seg := [u]) (j := q) (okp := fun b => True ∧ b ≠ g) rfl hcc (by show q + 1 ≤ 13;omega) hM (fun k hk => hk)).1
set_option maxHeartbeats 8000000 in
set_option maxRecDepth 100000 in
theorem Spoilt.calls (A1 : Option Addr) (c1 : Nat) (l : List S128) (which what : Int) (B : Nat) (w : World) (hr1 : Kd.R k128 128 w B (fun _ => True) (.slice A1 l.length c1) l) (hBw : B ≤ w.heap.size) (hwh : okB which) (hwt : okB what) (hn : l.length ≤ 1000) :
    Calls Try.prog 86 #[.slice A1 l.length c1,.int .u8 which,.int .u8 what] w fun e w' => ∃ v,e = .returned v ∧ Kd.R k128 128 w' B (fun _ => True) v (Spoilt.f l which what) ∧ Below w.heap.size w w' := by
  have hu128 := Try.underlying128
  have hu84 := Try.underlying84
  have HR1 := Lib.hid hr1
  obtain ⟨A1',c1',e1,hc1,hE⟩ := EvRows.of hr1
  injection e1 with e1 _ e2
  subst e1
  subst e2
  have HEv := Lib.hid hE
  have HC1 := Lib.hid hc1
  clear hr1 hc1 hE
  by_cases h0 : l.length = 0
  · obtain rfl : l = [] := List.eq_nil_of_length_eq_zero h0
    have hS : Spoilt.f [] which what = [] := by unfold Spoilt.f;rw [if_pos (.inl rfl)]
    rw [hS]
    clear hS h0
    go_enter Try.func86,Try.ntmps86
    go_wp2_with fail
    go_ret
    exact ⟨_,rfl,HR1.out,Below.refl _ _⟩
  · have hb1 : ((l.length : Int) == 0) = false := by rw [beq_eq_false_iff_ne];omega
    have hb2 : decide ((l.length : Int) = 0) = false := decide_eq_false (by omega)
    have hb3 : ¬ (l.length : Int) = 0 := by omega
    by_cases h1 : what.tmod 6 = 0
    · have hS : Spoilt.f l which what = l := by unfold Spoilt.f;rw [if_pos (.inr h1)]
      rw [hS]
      clear hS
      go_enter Try.func86,Try.ntmps86
      go_wp2_with fail
      go_ret
      exact ⟨_,rfl,HR1.out,Below.refl _ _⟩
    · have hc1 : (what.tmod 6 == 0) = false := by rw [beq_eq_false_iff_ne];exact h1
      have hc2 : decide (what.tmod 6 = 0) = false := decide_eq_false h1
      obtain ⟨n,rfl⟩ := Int.eq_ofNat_of_zero_le hwh.1
      obtain ⟨j,hj⟩ : ∃ j,j = n % l.length := ⟨_,rfl⟩
      have hjl : j < l.length := by rw [hj];exact Nat.mod_lt _ (by omega)
      have hS : Spoilt.f l (n : Int) what = l.set j (spoilE what (rd_T128 l (j : Int))) := by unfold Spoilt.f;rw [if_neg (by omega),Int.toNat_natCast,← hj]
      obtain ⟨e,he⟩ : ∃ e,e = rd_T128 l (j : Int) := ⟨_,rfl⟩
      rw [hS,← he]
      clear hS
      have HEe := Lib.hid he
      clear he
      have hnw := wrap_small n (by have := hwh.2;omega)
      have hjm : (n : Int).tmod (l.length : Int) = (j : Int) := by rw [hj,Int.ofNat_tmod]
      clear hj
      go_enter Try.func86,Try.ntmps86
      go_upto_region 4 with ((with_reducible refine gate_builtin (b := .append) (xs := #[.tmp 18,.tmp 19]) rfl ?_);at_builtin;refine ev_rows (w0 := w) (B := B) hBw rfl (.tmp 18) (.tmp 19) rfl _ [] l A1 l.length c1 rfl rfl (Grow.nil hBw (Below.refl _ _)) (EvRows.at0 HEv.out (below_alloc (Below.refl _ _) _)) (by simp;omega) ?_;intro v20 w2 hg hgr;have HG := Lib.hid hg;clear hg hgr)
      have hgr := HG.out.r
      rw [List.nil_append] at hgr
      obtain ⟨g,cap,rfl,hbg,hgl,hcells⟩ := Kd.R_form hgr (by omega)
      obtain ⟨c,hcl,hM,hcc,hfz⟩ := Kd.R_elem hgr z128 (j : Int) (by omega) (by omega)
      rw [show l.getD (j : Int).toNat z128 = e by rw [HEe.out];rfl] at hM
      rw [Int.toNat_natCast] at hcc hfz
      obtain ⟨v11,rfl,hR⟩ := k128_openM hM
      obtain ⟨A11,c11,rfl⟩ := Kd.R_slice hR
      obtain ⟨o,ho⟩ : ∃ o,j * 13 + 7 = o := ⟨_,rfl⟩
      have z7 : w2.cell? ⟨g,o,none⟩ = some (.int .i64 e.f4.f0) := by rw [← ho];exact hcc 7 _ rfl
      have z8 : w2.cell? ⟨g,o + 1,none⟩ = some (.bool e.f4.f1) := by rw [← ho];exact hcc 8 _ rfl
      have z9 : w2.cell? ⟨g,o + 2,none⟩ = some (.int .i64 e.f4.f2) := by rw [← ho];exact hcc 9 _ rfl
      have z10 : w2.cell? ⟨g,o + 3,none⟩ = some (.int .i64 e.f4.f3) := by rw [← ho];exact hcc 10 _ rfl
      have f7 : w2.frozen? ⟨g,o,none⟩ = false := by rw [← ho];exact hfz 7
      have f8 : w2.frozen? ⟨g,o + 1,none⟩ = false := by rw [← ho];exact hfz 8
      have f9 : w2.frozen? ⟨g,o + 2,none⟩ = false := by rw [← ho];exact hfz 9
      have f10 : w2.frozen? ⟨g,o + 3,none⟩ = false := by rw [← ho];exact hfz 10
      have HRg := Lib.hid hgr
      have HRp := Lib.hid hR
      have HCC := Lib.hid hcc
      have HO := Lib.hid ho
      have hjd : decide ((j : Int) < (l.length : Int)) = true := decide_eq_true (by omega)
      have hB2 := Lib.hid HG.out.b
      have hGo : w.heap.size ≤ g := HG.out.o g (by simp [Value.ownBlock])
      clear hgr hbg hgl hcells hM hcc hfz hR HG hcl
      go_upto_region 5 with (fail)
      clear ho
      have hm0 := Int.tmod_nonneg 6 hwt.1
      have hm1 := Int.tmod_lt_of_pos what (show (0 : Int) < 6 by decide)
      have HMm := Lib.hid (And.intro hm0 hm1)
      clear hm0 hm1 h0 h1 hc1 hc2 hb1 hb2 hb3 hnw
      by_cases q1 : what.tmod 6 = 1
      · have hE : spoilE what e = ⟨e.f0,e.f1,e.f2,e.f3,⟨e.f4.f0,!e.f4.f1,e.f4.f2,e.f4.f3,e.f4.f4,e.f4.f5⟩⟩ := by unfold spoilE spoilA;rw [if_pos q1]
        have HE := Lib.hid hE
        clear hE
        go_wp2_with fail
        go_ret
        exact ⟨_,rfl,by rw [HE.out];exact ev_seg HRg.out hjl HCC.out 8 (by decide) _ (by rw [← HO.out]) (k128_mkM _ _ _ _ HRp.out),below_set hB2.out hGo⟩
      have q1b : (what.tmod 6 == 1) = false := by rw [beq_eq_false_iff_ne];exact q1
      have q1d : decide (what.tmod 6 = 1) = false := decide_eq_false q1
      by_cases q2 : what.tmod 6 = 2
      · have hE : spoilE what e = ⟨e.f0,e.f1,e.f2,e.f3,⟨e.f4.f0,e.f4.f1,e.f4.f2,wrap64 (e.f4.f3 + 1),e.f4.f4,e.f4.f5⟩⟩ := by unfold spoilE spoilA;rw [if_neg q1,if_pos q2]
        have HE := Lib.hid hE
        clear hE q1 q1b q1d
        go_wp2_with fail
        go_ret
        exact ⟨_,rfl,by rw [HE.out];exact ev_seg HRg.out hjl HCC.out 10 (by decide) _ (by rw [← HO.out]) (k128_mkM _ _ _ _ HRp.out),below_set hB2.out hGo⟩
      have q2b : (what.tmod 6 == 2) = false := by rw [beq_eq_false_iff_ne];exact q2
      have q2d : decide (what.tmod 6 = 2) = false := decide_eq_false q2
      by_cases q3 : what.tmod 6 = 3
      · have hE : spoilE what e = ⟨e.f0,e.f1,e.f2,e.f3,⟨e.f4.f0,e.f4.f1,wrap64 (e.f4.f2 + 1),e.f4.f3,e.f4.f4,e.f4.f5⟩⟩ := by unfold spoilE spoilA;rw [if_neg q1,if_neg q2,if_pos q3]
        have HE := Lib.hid hE
        clear hE q1 q1b q1d q2 q2b q2d
        go_wp2_with fail
        go_ret
        exact ⟨_,rfl,by rw [HE.out];exact ev_seg HRg.out hjl HCC.out 9 (by decide) _ (by rw [← HO.out]) (k128_mkM _ _ _ _ HRp.out),below_set hB2.out hGo⟩
      have q3b : (what.tmod 6 == 3) = false := by rw [beq_eq_false_iff_ne];exact q3
      have q3d : decide (what.tmod 6 = 3) = false := decide_eq_false q3
      by_cases q4 : what.tmod 6 = 4
      · have hE : spoilE what e = ⟨e.f0,e.f1,e.f2,e.f3,⟨10,e.f4.f1,e.f4.f2,e.f4.f3,e.f4.f4,e.f4.f5⟩⟩ := by unfold spoilE spoilA;rw [if_neg q1,if_neg q2,if_neg q3,if_pos q4]
        have HE := Lib.hid hE
        clear hE q1 q1b q1d q2 q2b q2d q3 q3b q3d
        go_wp2_with fail
        go_ret
        exact ⟨_,rfl,by rw [HE.out];exact ev_seg HRg.out hjl HCC.out 7 (by decide) _ (by rw [← HO.out]) (k128_mkM _ _ _ _ HRp.out),below_set hB2.out hGo⟩
      · have q4b : (what.tmod 6 == 4) = false := by rw [beq_eq_false_iff_ne];exact q4
        have q4d : decide (what.tmod 6 = 4) = false := decide_eq_false q4
        have hE : spoilE what e = ⟨e.f0,e.f1,e.f2,e.f3,⟨4,e.f4.f1,e.f4.f2,e.f4.f3,e.f4.f4,e.f4.f5⟩⟩ := by unfold spoilE spoilA;rw [if_neg q1,if_neg q2,if_neg q3,if_neg q4]
        have HE := Lib.hid hE
        clear hE q1 q2 q3 q4
        go_wp2_with fail
        go_ret
        exact ⟨_,rfl,by rw [HE.out];exact ev_seg HRg.out hjl HCC.out 7 (by decide) _ (by rw [← HO.out]) (k128_mkM _ _ _ _ HRp.out),below_set hB2.out hGo⟩
end Go.Proofs.Ytkoiffkonjpoiaa.Q
