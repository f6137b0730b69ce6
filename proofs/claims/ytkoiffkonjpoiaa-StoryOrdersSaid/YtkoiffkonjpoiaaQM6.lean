/- Several texts of this claim in one: contracts of the program's functions, and plain lemmas about what they compute; each is stated under its own conditions. -/
import Derived.Test.YtkoiffkonjpoiaaQM5
import Derived.Test.YtkoiffkonjpoiaaWWords
import Derived.Test.YtkoiffkonjpoiaaWMore
import Derived.Test.YtkoiffkonjpoiaaWSized
import Derived.Deep.Slices
import Derived.SizedLaws
import Derived.WideShapes
import Derived.Test.YtkoiffkonjpoiaaRows
import Derived.ProofKit
import Derived.KernelRfl
import Derived.JoinedOf
import Derived.Test.YtkoiffkonjpoiaaQM1
import Derived.Test.YtkoiffkonjpoiaaQM2
import Derived.Test.YtkoiffkonjpoiaaQM4
set_option linter.unusedVariables false
set_option linter.unusedSimpArgs false
namespace Go.Proofs.Ytkoiffkonjpoiaa.Q
open Go.RowKit Go.Proofs.YtkoiffkonjpoiaaW.PrintWords Go.Proofs.YtkoiffkonjpoiaaW.PrintLast Go.Proofs.YtkoiffkonjpoiaaW.PrintMore Go.Proofs.YtkoiffkonjpoiaaX
attribute [local go_sem] max2_int min2_int max_two min_two max_three min_three max_four min_four Oper.quiet Oper.quietAt Oper.quietUpon
set_option linter.unusedVariables false
set_option linter.unusedSimpArgs false
/-- An answer is written. -/
theorem an_put {w0 W : World} {g : Nat} {x0 x1 x2 x3 x4 x5 y0 y1 y2 y3 y4 y5 : Value} (hb : w0.heap.size ≤ g) (h : W.heap[g]? = some (.cells #[x0,x1,x2,x3,x4,x5] 84 (0,0))) (HB : Below w0.heap.size w0 W) :
    ((((((W.setCell ⟨g,0,none⟩ y0).setCell ⟨g,1,none⟩ y1).setCell ⟨g,2,none⟩ y2).setCell ⟨g,3,none⟩ y3).setCell ⟨g,4,none⟩ y4).setCell ⟨g,5,none⟩ y5).heap[g]? = some (.cells #[y0,y1,y2,y3,y4,y5] 84 (0,0)) ∧
    Below w0.heap.size w0 ((((((W.setCell ⟨g,0,none⟩ y0).setCell ⟨g,1,none⟩ y1).setCell ⟨g,2,none⟩ y2).setCell ⟨g,3,none⟩ y3).setCell ⟨g,4,none⟩ y4).setCell ⟨g,5,none⟩ y5) ∧
    (∀ b,b ≠ g → ((((((W.setCell ⟨g,0,none⟩ y0).setCell ⟨g,1,none⟩ y1).setCell ⟨g,2,none⟩ y2).setCell ⟨g,3,none⟩ y3).setCell ⟨g,4,none⟩ y4).setCell ⟨g,5,none⟩ y5).heap[b]? = W.heap[b]?) := by
  refine ⟨?_,?_,fun b hne => ?_⟩
  · exact blk_put (cs := #[y0,y1,y2,y3,y4,x5]) (blk_put (cs := #[y0,y1,y2,y3,x4,x5]) (blk_put (cs := #[y0,y1,y2,x3,x4,x5]) (blk_put (cs := #[y0,y1,x2,x3,x4,x5]) (blk_put (cs := #[y0,x1,x2,x3,x4,x5]) (blk_put (cs := #[x0,x1,x2,x3,x4,x5]) h 0 _ rfl) 1 _ rfl) 2 _ rfl) 3 _ rfl) 4 _ rfl) 5 _ rfl
  · exact below_set (below_set (below_set (below_set (below_set (below_set HB hb) hb) hb) hb) hb) hb
  · exact (Below.heap_setCell _ _ _ b hne).trans ((Below.heap_setCell _ _ _ b hne).trans ((Below.heap_setCell _ _ _ b hne).trans ((Below.heap_setCell _ _ _ b hne).trans ((Below.heap_setCell _ _ _ b hne).trans (Below.heap_setCell _ _ _ b hne)))))
/-- An event's cells, from an address on. -/
def evIn (W : World) (p : Addr) (e : S128) (A : Option Addr) (c : Nat) : Prop := W.cell? p = some (.int .i64 e.f0) ∧ W.cell? ⟨p.block,p.off + 1,none⟩ = some (.int .u8 e.f1.f0) ∧ W.cell? ⟨p.block,p.off + 2,none⟩ = some (.int .i64 e.f1.f1) ∧ W.cell? ⟨p.block,p.off + 3,none⟩ = some (.int .i64 e.f1.f2) ∧ W.cell? ⟨p.block,p.off + 4,none⟩ = some (.int .i64 e.f1.f3) ∧ W.cell? ⟨p.block,p.off + 5,none⟩ = some (.int .i64 e.f2) ∧ W.cell? ⟨p.block,p.off + 6,none⟩ = some (.int .i64 e.f3) ∧ W.cell? ⟨p.block,p.off + 7,none⟩ = some (.int .i64 e.f4.f0) ∧ W.cell? ⟨p.block,p.off + 8,none⟩ = some (.bool e.f4.f1) ∧ W.cell? ⟨p.block,p.off + 9,none⟩ = some (.int .i64 e.f4.f2) ∧ W.cell? ⟨p.block,p.off + 10,none⟩ = some (.int .i64 e.f4.f3) ∧ W.cell? ⟨p.block,p.off + 11,none⟩ = some (.slice A e.f4.f4.length c) ∧ W.cell? ⟨p.block,p.off + 12,none⟩ = some (.bool e.f4.f5)
def badF (l : List S128) (e : S128) (i j : Nat) : Bool := j == i || (mustE e && decide (e.f3 < (rd_T128 l (j : Int)).f2))
set_option maxHeartbeats 8000000 in
set_option maxRecDepth 100000 in
theorem Fits.calls (k : Nat) (A0 : Option Addr) (c0 : Nat) (l0 : List S40) (A1 : Option Addr) (c1 : Nat) (l : List S128) (A2 : Option Addr) (c2 : Nat) (order : List Int) (r : Bool) (w : World) (hr0 : Kd.C k40 w A0 l0.length l0) (hc0 : l0.length ≤ c0) (hr1 : Kd.C k128 w A1 l.length l) (hc1 : l.length ≤ c1) (hr2 : Kd.C (Kd.int .i64) w A2 order.length order) (hc2 : order.length ≤ c2) (h : Fits.f k l0 l order = some r) :
    Calls Try.prog 90 #[.slice A0 l0.length c0,.slice A1 l.length c1,.slice A2 order.length c2] w fun e w' => e = .returned (.bool r) ∧ Below w.heap.size w w' := by
  have hu128 := Try.underlying128
  have hu84 := Try.underlying84
  have hu78 := Try.underlying78
  have HP := Lib.hid (NowAt.start hr0 hc0)
  have HR1 := Lib.hid hr1
  have HC1 := Lib.hid hc1
  have HR2 := Lib.hid hr2
  have HC2 := Lib.hid hc2
  have H : Hid (fitsGo k l [] l0 (order.drop 0) = some r) := Lib.hid h
  have hl1 := hr1.2.1
  have hl2 := hr2.2.1
  clear hr0 hc0 hr1 hc1 hr2 hc2 h
  go_enter Try.func90,Try.ntmps90
  go_wp2_with fail
  go_loopg [16,7] order.length (fun gk v16 v7 W => ∃ (kk : Nat) (pre : List Nat) (now : List S40) (An : Option Addr) (cn : Nat),v16 = .int .i64 (kk : Int) ∧ v7 = .slice An now.length cn ∧ kk ≤ order.length ∧ order.length - kk ≤ gk ∧ Hid (pre.length = kk ∧ (∀ m,m < kk → order.getD m 0 = ((pre.getD m 0 : Nat) : Int)) ∧ ∀ j ∈ pre,j < l.length) ∧ Hid (fitsGo k l pre now (order.drop kk) = some r) ∧ Hid (NowAt W (.slice none 0 0) An cn now) ∧ Hid (Below w.heap.size w W))
  case atStart => exact ⟨0,[],l0,A0,c0,rfl,rfl,by omega,by omega,Lib.hid ⟨rfl,fun m hm => by omega,fun j hj => by simp at hj⟩,H,HP,Lib.hid (Below.refl _ _)⟩
  case round =>
    clear H HP
    obtain ⟨kk,pre,now,An,cn,rfl,rfl,hk1,hgk,HPre,H,HP,HB⟩ := hrel
    by_cases hkk : kk < order.length
    · obtain ⟨ad2,e2,y0⟩ := Kd.at_int (Kd.C_below HR2.out HB.out) (kk : Int) (by omega) (by omega)
      cases e2
      rw [Int.toNat_natCast] at y0
      obtain ⟨i,hie⟩ : ∃ i,i = rd order (kk : Int) := ⟨_,rfl⟩
      rw [← hie] at y0
      have hdrop : order.drop kk = i :: order.drop (kk + 1) := by
        rw [List.drop_eq_getElem_cons hkk,hie]
        simp [rd,hkk]
      have hget : order.getD kk 0 = i := by rw [hie];simp [rd,hkk]
      have hkd : decide ((kk : Int) < (order.length : Int)) = true := decide_eq_true (by omega)
      have hkw : IntKind.i64.wrap ((kk : Int) + 1) = (kk : Int) + 1 := by rw [IntKind.wrap_i64];omega
      have h := H.out
      rw [hdrop,fitsGo] at h
      clear H hdrop hie
      by_cases hi0 : i < 0
      · rw [if_pos (.inl hi0)] at h
        obtain rfl := Option.some.inj h
        have hd : decide (i < 0) = true := decide_eq_true hi0
        clear h hget
        go_wp2_with fail
        go_ret
        exact ⟨rfl,HB.out⟩
      · obtain ⟨j,rfl⟩ := Int.eq_ofNat_of_zero_le (show 0 ≤ i by omega)
        have hd : decide ((j : Int) < 0) = false := decide_eq_false hi0
        by_cases hjn : l.length ≤ j
        · rw [if_pos (.inr (by omega))] at h
          obtain rfl := Option.some.inj h
          have hd2 : decide ((l.length : Int) ≤ (j : Int)) = true := decide_eq_true (by omega)
          clear h hi0 hget
          go_wp2_with fail
          go_ret
          exact ⟨rfl,HB.out⟩
        · have hd2 : decide ((l.length : Int) ≤ (j : Int)) = false := decide_eq_false (by omega)
          rw [if_neg (by omega),Int.toNat_natCast] at h
          have hj : j < l.length := by omega
          have hjc : decide ((j : Int) < (l.length : Int)) = true := decide_eq_true (by omega)
          obtain ⟨e,he⟩ : ∃ e,e = rd_T128 l (j : Int) := ⟨_,rfl⟩
          rw [← he] at h
          obtain ⟨ad,A11,c11,e1,x0,x1,x2,x3,x4,x5,x6,x7,x8,x9,x10,x11,x12,l11,g11⟩ := ev_at HR1.out (Below.refl _ _) j hj e he
          have HXX := Lib.hid (And.intro x0 (And.intro x1 (And.intro x2 (And.intro x3 (And.intro x4 (And.intro x5 (And.intro x6 (And.intro x7 (And.intro x8 (And.intro x9 (And.intro x10 (And.intro x11 x12))))))))))))
          have HG11 := Lib.hid (And.intro l11 g11)
          have HE := Lib.hid he
          have HGet := Lib.hid hget
          clear l11 g11 he hget x0 x1 x2 x3 x4 x5 x6 x7 x8 x9 x10 x11 x12
          cases e1
          have hfac : ∀ W,Hid (Below w.heap.size w W) → evIn W (ad.add (j * 13)) e A11 c11 := by
            intro W h1
            obtain ⟨x0,x1,x2,x3,x4,x5,x6,x7,x8,x9,x10,x11,x12⟩ := HXX.out
            have t : ∀ a v,w.cell? a = some v → W.cell? a = some v := fun a v hx => (h1.out.cell (World.block_lt_of_cell? w _ hx)).trans hx
            exact ⟨t _ _ x0,t _ _ x1,t _ _ x2,t _ _ x3,t _ _ x4,t _ _ x5,t _ _ x6,t _ _ x7,t _ _ x8,t _ _ x9,t _ _ x10,t _ _ x11,t _ _ x12⟩
          have HFac := Lib.hid hfac
          clear hfac
          obtain ⟨x0,x1,x2,x3,x4,x5,x6,x7,x8,x9,x10,x11,x12⟩ := HFac.out _ HB
          by_cases hno : noneE e = true
          · rw [if_pos hno] at h
            obtain rfl := Option.some.inj h
            clear h hi0
            go_wp2_with (go_at_call 118;refine (lawMay e A11 c11 _).mono ?_;rintro e_ w4 ⟨rfl,hb4⟩;rw [hno];have HB4 := Lib.hid (below_step HB.out hb4);clear hb4)
            go_ret
            exact ⟨rfl,HB4.out⟩
          · have hno' : noneE e = false := by simpa using hno
            rw [if_neg hno] at h
            have H2 := Lib.hid h
            obtain ⟨i3,hi3,hz3,hs3,hb3⟩ := info_parts (show (Try.prog.info? 3).map (fun i => (i.zero,i.size,i.bytes)) = some (some (.int .i64 0),1,8) by kernel_rfl)
            have hcut := cut_to (P := Try.prog) 110 3 .i64 Try.underlying110 hi3 (some ad2) order.length c2 (kk : Int) (by omega) (by omega) HC2.out
            rw [Int.toNat_natCast] at hcut
            clear h hi0 hno hi3 hz3 hs3 hb3
            go_upto_block 2 with (go_at_call 118;refine (lawMay e A11 c11 _).mono ?_;rintro e_ w4 ⟨rfl,hb4⟩;rw [hno'];have HB4 := Lib.hid (below_step HB.out hb4);have HP4 := Lib.hid (HP.out.below hb4);clear hb4)
            clear hcut x0 x1 x2 x3 x4 x5 x6 x7 x8 x9 x10 x11 x12 y0 HP HB
            go_wp2_with fail
            go_loopg [41] kk (fun gk v41 W => ∃ (m : Nat),v41 = .int .i64 (m : Int) ∧ m ≤ kk ∧ kk - m ≤ gk ∧ Hid (∀ x,x < m → badF l e j (pre.getD x 0) = false) ∧ Hid (NowAt W (.slice none 0 0) An cn now) ∧ Hid (Below w.heap.size w W))
            case atStart => exact ⟨0,rfl,by omega,by omega,Lib.hid (fun x hx => by omega),HP4,HB4⟩
            case round =>
              clear HP4 HB4
              obtain ⟨m,rfl,hm1,hmk,HN,HP,HB⟩ := hrel
              by_cases hm : m < kk
              · obtain ⟨ad3,e3,y1⟩ := Kd.at_int (Kd.C_below HR2.out HB.out) (m : Int) (by omega) (by omega)
                cases e3
                rw [Int.toNat_natCast] at y1
                obtain ⟨pm,hpm⟩ : ∃ pm,pm = pre.getD m 0 := ⟨_,rfl⟩
                have hrd : rd order (m : Int) = (pm : Int) := by
                  have := HPre.out.2.1 m hm
                  rw [hpm,← this]
                  rfl
                rw [hrd] at y1
                have hmem : pm ∈ pre := by
                  rw [hpm,List.getD_eq_getElem?_getD,List.getElem?_eq_getElem (by rw [HPre.out.1];exact hm)]
                  exact List.getElem_mem _
                have hpl : pm < l.length := HPre.out.2.2 pm hmem
                obtain ⟨f',hf'⟩ : ∃ f',f' = rd_T128 l (pm : Int) := ⟨_,rfl⟩
                obtain ⟨ad4,A12,c12,e4,p0,p1,p2,p3,p4,p5,p6,p7,p8,p9,p10,p11,p12,l12,g12⟩ := ev_at HR1.out (Below.refl _ _) pm hpl f' hf'
                cases e4
                have HP5 := Lib.hid p5
                have HFf := Lib.hid hf'
                have HPm := Lib.hid (And.intro hpm hmem)
                clear hrd hmem hpm hf' l12 g12 p0 p1 p2 p3 p4 p5 p6 p7 p8 p9 p10 p11 p12
                have hmd : decide ((m : Int) < (kk : Int)) = true := decide_eq_true (by omega)
                have hmw : IntKind.i64.wrap ((m : Int) + 1) = (m : Int) + 1 := by rw [IntKind.wrap_i64];omega
                have hpd : decide ((pm : Int) < (l.length : Int)) = true := decide_eq_true (by omega)
                have hbad : badF l e j pm = (pm == j || (mustE e && decide (e.f3 < f'.f2))) := by unfold badF;rw [HFf.out]
                have HBd := Lib.hid hbad
                have hret : badF l e j pm = true → r = false := fun hb => by
                  have h := H2.out
                  rw [if_pos (show (pre.any fun x => x == j || (mustE e && decide (e.f3 < (rd_T128 l (x : Int)).f2))) = true from List.any_eq_true.2 ⟨pm,HPm.out.2,hb⟩)] at h
                  exact (Option.some.inj h).symm
                have HRet := Lib.hid hret
                have hnext : badF l e j pm = false → Hid (∀ x,x < m + 1 → badF l e j (pre.getD x 0) = false) := fun hb => Lib.hid (fun x hx => by
                  rcases Nat.lt_or_ge x m with h1 | h1
                  · exact HN.out x h1
                  · obtain rfl : x = m := by omega
                    rw [← HPm.out.1]
                    exact hb)
                have HNext := Lib.hid hnext
                clear hbad hret hnext
                go_upto_region 10 with (fail)
                obtain ⟨C,hCd⟩ : ∃ C : World → Prop,C = fun W => Hid (NowAt W (.slice none 0 0) An cn now) ∧ Hid (Below w.heap.size w W) := ⟨_,rfl⟩
                have hC0 : C wr := by rw [hCd];exact ⟨HP,HB⟩
                have hCb : ∀ W W',C W → Below W.heap.size W W' → C W' := by rw [hCd];rintro W W' ⟨h1,h2⟩ hb;exact ⟨Lib.hid (h1.out.below hb),Lib.hid (below_step h2.out hb)⟩
                have hfac : ∀ W,C W → evIn W (ad.add (j * 13)) e A11 c11 ∧ W.cell? ⟨(ad.add (pm * 13)).block,(ad.add (pm * 13)).off + 5,none⟩ = some (.int .i64 f'.f2) := by
                  rw [hCd]
                  rintro W ⟨_,h1⟩
                  obtain ⟨x0,x1,x2,x3,x4,x5,x6,x7,x8,x9,x10,x11,x12⟩ := HFac.out W h1
                  exact ⟨⟨x0,x1,x2,x3,x4,x5,x6,x7,x8,x9,x10,x11,x12⟩,(h1.out.cell (World.block_lt_of_cell? w _ HP5.out)).trans HP5.out⟩
                have HCd := Lib.hid hCd
                have hcm0 : ∀ W,C W → Calls Try.prog 119 #[.agg (evA e A11 c11)] W fun e_ w' => e_ = .returned (.bool (mustE e)) ∧ Below W.heap.size W w' := fun W _ => lawMust e A11 c11 W
                clear hCd HP HB HN y1
                by_cases hpj : pm = j
                · subst hpj
                  obtain rfl := HRet.out (by rw [HBd.out];simp)
                  have hcm := hcm0
                  clear hcm0
                  refine quiet_reg C hC0 hCb (by kernel_rfl) ?_
                  repeat (refine WQ_step (fun K hK => ?_);go_simp;first | (refine hK _ ?_;clear hK K) | (apply Exists.intro;refine ⟨fun W hW => ?_,hK _ ?_⟩;(first | rfl | exact ⟨rfl,rfl⟩ | (obtain ⟨⟨q0,q1,q2,q3,q4,q5,q6,q7,q8,q9,q10,q11,q12⟩,q13⟩ := hfac W hW;first | (go_simp;done) | (go_simp;rfl) | (go_simp;exact ⟨rfl,rfl⟩) | exact (hcm W hW).mono (by rintro e_ w_ ⟨rfl,hb_⟩;exact ⟨rfl,hCb W w_ hW hb_⟩)));clear hK K))
                  refine WQ_nil ?_
                  intro W7 hW7
                  rw [HCd.out] at hW7
                  obtain ⟨HP7,HB7⟩ := hW7
                  go_wp2_with fail
                  go_ret
                  exact ⟨rfl,HB7.out⟩
                · have hpb : ((pm : Int) == (j : Int)) = false := by rw [beq_eq_false_iff_ne];omega
                  have hpd2 : decide ((pm : Int) = (j : Int)) = false := decide_eq_false (by omega)
                  have hpn : ¬ ((pm : Int) = (j : Int)) := by omega
                  have hpn2 : (pm == j) = false := by rw [beq_eq_false_iff_ne];exact hpj
                  have HPn := Lib.hid hpn2
                  clear hpj hpn2
                  by_cases hmu : mustE e = true
                  · have hcm : ∀ W,C W → Calls Try.prog 119 #[.agg (evA e A11 c11)] W fun e_ w' => e_ = .returned (.bool true) ∧ Below W.heap.size W w' := by rw [hmu] at hcm0;exact hcm0
                    by_cases hlt : e.f3 < f'.f2
                    · have hld : decide (e.f3 < f'.f2) = true := decide_eq_true hlt
                      obtain rfl := HRet.out (by rw [HBd.out,hmu,hld];simp)
                      clear hcm0 hmu
                      refine quiet_reg C hC0 hCb (by kernel_rfl) ?_
                      repeat (refine WQ_step (fun K hK => ?_);go_simp;first | (refine hK _ ?_;clear hK K) | (apply Exists.intro;refine ⟨fun W hW => ?_,hK _ ?_⟩;(first | rfl | exact ⟨rfl,rfl⟩ | (obtain ⟨⟨q0,q1,q2,q3,q4,q5,q6,q7,q8,q9,q10,q11,q12⟩,q13⟩ := hfac W hW;first | (go_simp;done) | (go_simp;rfl) | (go_simp;exact ⟨rfl,rfl⟩) | exact (hcm W hW).mono (by rintro e_ w_ ⟨rfl,hb_⟩;exact ⟨rfl,hCb W w_ hW hb_⟩)));clear hK K))
                      refine WQ_nil ?_
                      intro W7 hW7
                      rw [HCd.out] at hW7
                      obtain ⟨HP7,HB7⟩ := hW7
                      go_wp2_with fail
                      go_ret
                      exact ⟨rfl,HB7.out⟩
                    · have hld : decide (e.f3 < f'.f2) = false := decide_eq_false hlt
                      have HN2 := HNext.out (by rw [HBd.out,hld,HPn.out,Bool.and_false];rfl)
                      clear hcm0 hmu
                      refine quiet_reg C hC0 hCb (by kernel_rfl) ?_
                      repeat (refine WQ_step (fun K hK => ?_);go_simp;first | (refine hK _ ?_;clear hK K) | (apply Exists.intro;refine ⟨fun W hW => ?_,hK _ ?_⟩;(first | rfl | exact ⟨rfl,rfl⟩ | (obtain ⟨⟨q0,q1,q2,q3,q4,q5,q6,q7,q8,q9,q10,q11,q12⟩,q13⟩ := hfac W hW;first | (go_simp;done) | (go_simp;rfl) | (go_simp;exact ⟨rfl,rfl⟩) | exact (hcm W hW).mono (by rintro e_ w_ ⟨rfl,hb_⟩;exact ⟨rfl,hCb W w_ hW hb_⟩)));clear hK K))
                      refine WQ_nil ?_
                      intro W7 hW7
                      rw [HCd.out] at hW7
                      obtain ⟨HP7,HB7⟩ := hW7
                      go_wp2_with fail
                      go_roundg (kk - (m + 1))
                      case rel => exact ⟨m + 1,by first | rfl | exact congrArg _ hmw | (simp [hmw]),by omega,by omega,HN2,HP7,HB7⟩
                      all_goals omega
                  · have hmu' : mustE e = false := by simpa using hmu
                    have hcm : ∀ W,C W → Calls Try.prog 119 #[.agg (evA e A11 c11)] W fun e_ w' => e_ = .returned (.bool false) ∧ Below W.heap.size W w' := by rw [hmu'] at hcm0;exact hcm0
                    have HN2 := HNext.out (by rw [HBd.out,hmu',HPn.out,Bool.false_and];rfl)
                    clear hcm0 hmu hmu'
                    refine quiet_reg C hC0 hCb (by kernel_rfl) ?_
                    repeat (refine WQ_step (fun K hK => ?_);go_simp;first | (refine hK _ ?_;clear hK K) | (apply Exists.intro;refine ⟨fun W hW => ?_,hK _ ?_⟩;(first | rfl | exact ⟨rfl,rfl⟩ | (obtain ⟨⟨q0,q1,q2,q3,q4,q5,q6,q7,q8,q9,q10,q11,q12⟩,q13⟩ := hfac W hW;first | (go_simp;done) | (go_simp;rfl) | (go_simp;exact ⟨rfl,rfl⟩) | exact (hcm W hW).mono (by rintro e_ w_ ⟨rfl,hb_⟩;exact ⟨rfl,hCb W w_ hW hb_⟩)));clear hK K))
                    refine WQ_nil ?_
                    intro W7 hW7
                    rw [HCd.out] at hW7
                    obtain ⟨HP7,HB7⟩ := hW7
                    go_wp2_with fail
                    go_roundg (kk - (m + 1))
                    case rel => exact ⟨m + 1,by first | rfl | exact congrArg _ hmw | (simp [hmw]),by omega,by omega,HN2,HP7,HB7⟩
                    all_goals omega
              · obtain rfl : m = kk := by omega
                have hmd : decide ((m : Int) < (m : Int)) = false := decide_eq_false (by omega)
                have hany : ¬ (pre.any fun x => x == j || (mustE e && decide (e.f3 < (rd_T128 l (x : Int)).f2))) = true := by
                  intro hx
                  obtain ⟨x,hx1,hx2⟩ := List.any_eq_true.1 hx
                  obtain ⟨y,hy1,hy2⟩ := List.getElem_of_mem hx1
                  have := HN.out y (by rw [← HPre.out.1];exact hy1)
                  rw [List.getD_eq_getElem?_getD,List.getElem?_eq_getElem hy1,Option.getD_some,hy2] at this
                  unfold badF at this
                  rw [this] at hx2
                  cases hx2
                have h := H2.out
                rw [if_neg hany] at h
                clear hany HN H2
                obtain ⟨xo,hxo,hr⟩ := Option.bind_eq_some_iff.1 h
                unfold lawE at hxo
                obtain ⟨⟨b1,b2,b3,b4,b5,b6,b7⟩,hA,hxo⟩ := Option.bind_eq_some_iff.1 hxo
                dsimp only at hxo
                have HA := Lib.hid hA
                have HXo := Lib.hid hxo
                have HRo := Lib.hid hr
                have HPre2 : Hid ((pre ++ [j]).length = m + 1 ∧ (∀ x,x < m + 1 → order.getD x 0 = (((pre ++ [j]).getD x 0 : Nat) : Int)) ∧ ∀ x ∈ pre ++ [j],x < l.length) := Lib.hid (by
                  obtain ⟨g1,g2,g3⟩ := HPre.out
                  refine ⟨by simp [g1],fun x hx => ?_,fun x hx => ?_⟩
                  · by_cases hxm : x < m
                    · rw [g2 x hxm,List.getD_eq_getElem?_getD,List.getD_eq_getElem?_getD,List.getElem?_append_left (by omega)]
                    · obtain rfl : x = m := by omega
                      rw [HGet.out,List.getD_eq_getElem?_getD,List.getElem?_append_right (by omega),g1]
                      simp
                  · rcases List.mem_append.1 hx with hx | hx
                    · exact g3 x hx
                    · obtain rfl : x = j := by simpa using hx
                      exact hj)
                clear h hxo hr hA HPre HGet
                go_upto_region 14 with (fail)
                refine find.settle (p := fun W => Code.wp _ _ _ _ W) (R := fun W => Hid (W.heap[wr.heap.size]? = some (.cells #[.int .i64 0,.bool false,.int .i64 0,.int .i64 0,.slice none 0 0,.bool false] 84 (0,0))) ∧ Hid (Below wr.heap.size wr W)) ⟨Lib.hid (heap_alloc_new _ _),Lib.hid (below_alloc (Below.refl _ _) _)⟩ ?_
                rintro wS ⟨HZ,BS⟩
                have hgA : wr.heap.size < wS.heap.size := (Array.getElem?_eq_some_iff.1 HZ.out).1
                have HBS := Lib.hid (below_step HB.out BS.out)
                obtain ⟨x0,x1,x2,x3,x4,x5,x6,x7,x8,x9,x10,x11,x12⟩ := HFac.out _ HBS
                obtain ⟨hcn,Nn,hFn,hNn⟩ := HP.out
                have HV : Hid (Kd.V k40 40 wS wS.heap.size Nn (.slice An now.length cn) now) := Lib.hid (Kd.V_mk hcn (Kd.F_below hFn BS.out))
                have HNn := Lib.hid hNn
                have HGA := Lib.hid hgA
                clear hcn hFn hNn hgA
                go_upto_region 15 with (go_at_call 75;refine Calls.mono (boscagelaw18_Apply.calls k Nn An cn now e.f1.f0 e.f1.f1 e.f1.f2 e.f1.f3 b1 b2 b3 b4 b5 b6 b7 _ HV.out HA.out) ?_;rintro e_ wV ⟨v0,v5,rfl,hV1,hO2,hb⟩;obtain ⟨Aq,cq,eq_⟩ := Kd.R_slice hO2;subst eq_;obtain ⟨Az,cz,ez,hlz,hfz⟩ := hV1;subst ez;have FZ := Lib.hid (And.intro hlz hfz);have HZ' := Lib.hid (blk_below HZ.out hb);have BV := Lib.hid (below_step BS.out hb);have HO := Lib.hid hO2;clear hO2 hb hlz hfz x0 x1 x2 x3 x4 x5 x6 x7 x8 x9 x10 x11 x12;have e0 : wV.cell? ⟨wr.heap.size,0,none⟩ = some (.int .i64 0) := (blk_cell HZ'.out 0).trans rfl;have f0 := blk_frozen HZ'.out 0;have e1 : wV.cell? ⟨wr.heap.size,1,none⟩ = some (.bool false) := (blk_cell HZ'.out 1).trans rfl;have f1 := blk_frozen HZ'.out 1;have e2 : wV.cell? ⟨wr.heap.size,2,none⟩ = some (.int .i64 0) := (blk_cell HZ'.out 2).trans rfl;have f2 := blk_frozen HZ'.out 2;have e3 : wV.cell? ⟨wr.heap.size,3,none⟩ = some (.int .i64 0) := (blk_cell HZ'.out 3).trans rfl;have f3 := blk_frozen HZ'.out 3;have e4 : wV.cell? ⟨wr.heap.size,4,none⟩ = some (.slice none 0 0) := (blk_cell HZ'.out 4).trans rfl;have f4 := blk_frozen HZ'.out 4;have e5 : wV.cell? ⟨wr.heap.size,5,none⟩ = some (.bool false) := (blk_cell HZ'.out 5).trans rfl;have f5 := blk_frozen HZ'.out 5)
                refine find.settle (p := fun W => Code.wp _ _ _ _ W) (R := fun W => Hid (W.heap[wr.heap.size]? = some (.cells #[.int .i64 b2,.bool b3,.int .i64 b4,.int .i64 b5,.slice Aq b6.length cq,.bool b7] 84 (0,0))) ∧ Hid (b6.length ≤ cq ∧ Kd.C k40 W Aq b6.length b6) ∧ Hid (NowAt W (.slice none 0 0) Az cz b1) ∧ Hid (Below w.heap.size w W)) ?_ ?_
                · obtain ⟨p1,p2,p3⟩ := an_put (y0 := .int .i64 b2) (y1 := .bool b3) (y2 := .int .i64 b4) (y3 := .int .i64 b5) (y4 := .slice Aq b6.length cq) (y5 := .bool b7) (Nat.le_refl wr.heap.size) HZ'.out BV.out
                  exact ⟨Lib.hid p1,Lib.hid (Kd.R_reads' (Kd.R_step HO.out (fun b hb _ => p3 b (by have := HGA.out;omega)))).2,Lib.hid (NowAt.next (A := An) (c := cn) (l := now) HNn.out (fun b hb => by simp [Value.ownBlock] at hb) BS.out.size FZ.out.1 FZ.out.2 (Nat.le_refl _) HGA.out (by simp [World.setCell]) p3),Lib.hid (below_step HB.out p2)⟩
                clear HP HB HZ BS HBS HV HNn HGA FZ HZ' BV HO e0 e1 e2 e3 e4 e5 f0 f1 f2 f3 f4 f5 HA
                rintro w5 ⟨HT5,HY5,HP5,HB5⟩
                generalize wr.heap.size = gA at *
                obtain ⟨C,hCd⟩ : ∃ C : World → Prop,C = fun W => Hid (W.heap[gA]? = some (.cells #[.int .i64 b2,.bool b3,.int .i64 b4,.int .i64 b5,.slice Aq b6.length cq,.bool b7] 84 (0,0))) ∧ Hid (b6.length ≤ cq ∧ Kd.C k40 W Aq b6.length b6) ∧ Hid (NowAt W (.slice none 0 0) Az cz b1) ∧ Hid (Below w.heap.size w W) := ⟨_,rfl⟩
                have hC0 : C w5 := by rw [hCd];exact ⟨HT5,HY5,HP5,HB5⟩
                have hCb : ∀ W W',C W → Below W.heap.size W W' → C W' := by rw [hCd];rintro W W' ⟨h1,h2,h3,h4⟩ hb;exact ⟨Lib.hid (blk_below h1.out hb),Lib.hid ⟨h2.out.1,Kd.C_below h2.out.2 hb⟩,Lib.hid (h3.out.below hb),Lib.hid (below_step h4.out hb)⟩
                have hfac : ∀ W,C W → evIn W (ad.add (j * 13)) e A11 c11 ∧ W.cell? ⟨gA,0,none⟩ = some (.int .i64 b2) ∧ W.cell? ⟨gA,1,none⟩ = some (.bool b3) ∧ W.cell? ⟨gA,2,none⟩ = some (.int .i64 b4) ∧ W.cell? ⟨gA,3,none⟩ = some (.int .i64 b5) ∧ W.cell? ⟨gA,4,none⟩ = some (.slice Aq b6.length cq) ∧ W.cell? ⟨gA,5,none⟩ = some (.bool b7) := by
                  rw [hCd]
                  rintro W ⟨h1,h2,h3,h4⟩
                  obtain ⟨x0,x1,x2,x3,x4,x5,x6,x7,x8,x9,x10,x11,x12⟩ := HFac.out W h4
                  exact ⟨⟨x0,x1,x2,x3,x4,x5,x6,x7,x8,x9,x10,x11,x12⟩,(blk_cell h1.out 0).trans rfl,(blk_cell h1.out 1).trans rfl,(blk_cell h1.out 2).trans rfl,(blk_cell h1.out 3).trans rfl,(blk_cell h1.out 4).trans rfl,(blk_cell h1.out 5).trans rfl⟩
                have hcs0 : ∀ s,boscagelaw18_Same.f k b2 b3 b4 b5 b6 b7 e.f4.f0 e.f4.f1 e.f4.f2 e.f4.f3 e.f4.f4 e.f4.f5 = some s → ∀ W,C W → Calls Try.prog 73 #[.agg #[.int .i64 b2,.bool b3,.int .i64 b4,.int .i64 b5,.slice Aq b6.length cq,.bool b7],.agg #[.int .i64 e.f4.f0,.bool e.f4.f1,.int .i64 e.f4.f2,.int .i64 e.f4.f3,.slice A11 e.f4.f4.length c11,.bool e.f4.f5]] W fun e_ w' => e_ = .returned (.bool s) ∧ Below W.heap.size W w' := by
                  rw [hCd]
                  rintro s hs W ⟨h1,h2,h3,h4⟩
                  exact boscagelaw18_Same.calls k b2 b3 b4 b5 Aq cq b6 b7 e.f4.f0 e.f4.f1 e.f4.f2 e.f4.f3 A11 c11 e.f4.f4 e.f4.f5 s W h2.out.2 h2.out.1 (Kd.C_below HG11.out.2 h4.out) HG11.out.1 hs
                have HCd := Lib.hid hCd
                clear hCd HT5 HY5 HP5 HB5
                have hxo := HXo.out
                have hr := HRo.out
                clear HXo HRo
                by_cases h0 : 0 ≤ e.f3
                · have h0d : decide (0 ≤ e.f3) = true := decide_eq_true h0
                  rw [if_pos h0] at hxo
                  obtain ⟨sm,hsm,hxo⟩ := Option.bind_eq_some_iff.1 hxo
                  have hcm := hcs0 sm hsm
                  obtain rfl := Option.some.inj hxo
                  clear hsm hxo hcs0
                  cases sm with
                  | false =>
                    simp only [Bool.false_eq_true,if_false] at hr
                    obtain rfl := Option.some.inj hr
                    clear hr
                    refine quiet_reg C hC0 hCb (by kernel_rfl) ?_
                    repeat (refine WQ_step (fun K hK => ?_);go_simp;first | (refine hK _ ?_;clear hK K) | (apply Exists.intro;refine ⟨fun W hW => ?_,hK _ ?_⟩;(first | rfl | exact ⟨rfl,rfl⟩ | (obtain ⟨⟨q0,q1,q2,q3,q4,q5,q6,q7,q8,q9,q10,q11,q12⟩,q13,q14,q15,q16,q17,q18⟩ := hfac W hW;first | (go_simp;done) | (go_simp;rfl) | (go_simp;exact ⟨rfl,rfl⟩) | exact (hcm W hW).mono (by rintro e_ w_ ⟨rfl,hb_⟩;exact ⟨rfl,hCb W w_ hW hb_⟩)));clear hK K))
                    refine WQ_nil ?_
                    intro W7 hW7
                    rw [HCd.out] at hW7
                    obtain ⟨HT7,HY7,HP7,HB7⟩ := hW7
                    go_wp2_with fail
                    go_ret
                    exact ⟨rfl,HB7.out⟩
                  | true =>
                    simp only [if_true] at hr
                    have HG1 := Lib.hid hr
                    clear hr
                    refine quiet_reg C hC0 hCb (by kernel_rfl) ?_
                    repeat (refine WQ_step (fun K hK => ?_);go_simp;first | (refine hK _ ?_;clear hK K) | (apply Exists.intro;refine ⟨fun W hW => ?_,hK _ ?_⟩;(first | rfl | exact ⟨rfl,rfl⟩ | (obtain ⟨⟨q0,q1,q2,q3,q4,q5,q6,q7,q8,q9,q10,q11,q12⟩,q13,q14,q15,q16,q17,q18⟩ := hfac W hW;first | (go_simp;done) | (go_simp;rfl) | (go_simp;exact ⟨rfl,rfl⟩) | exact (hcm W hW).mono (by rintro e_ w_ ⟨rfl,hb_⟩;exact ⟨rfl,hCb W w_ hW hb_⟩)));clear hK K))
                    refine WQ_nil ?_
                    intro W7 hW7
                    rw [HCd.out] at hW7
                    obtain ⟨HT7,HY7,HP7,HB7⟩ := hW7
                    go_wp2_with fail
                    go_roundg (order.length - (m + 1))
                    case rel => exact ⟨m + 1,pre ++ [j],b1,Az,cz,by first | rfl | exact congrArg _ hkw | (simp [hkw]),rfl,by omega,by omega,HPre2,HG1,HP7,HB7⟩
                    all_goals omega
                · have h0d : decide (0 ≤ e.f3) = false := decide_eq_false h0
                  have hcm : True := trivial
                  rw [if_neg h0] at hxo
                  obtain rfl := Option.some.inj hxo
                  dsimp only at hr
                  have HG1 := Lib.hid hr
                  clear hr hxo hcs0
                  refine quiet_reg C hC0 hCb (by kernel_rfl) ?_
                  repeat (refine WQ_step (fun K hK => ?_);go_simp;first | (refine hK _ ?_;clear hK K) | (apply Exists.intro;refine ⟨fun W hW => ?_,hK _ ?_⟩;(first | rfl | exact ⟨rfl,rfl⟩ | (obtain ⟨⟨q0,q1,q2,q3,q4,q5,q6,q7,q8,q9,q10,q11,q12⟩,q13,q14,q15,q16,q17,q18⟩ := hfac W hW;first | (go_simp;done) | (go_simp;rfl) | (go_simp;exact ⟨rfl,rfl⟩) | exact (hcm W hW).mono (by rintro e_ w_ ⟨rfl,hb_⟩;exact ⟨rfl,hCb W w_ hW hb_⟩)));clear hK K))
                  refine WQ_nil ?_
                  intro W7 hW7
                  rw [HCd.out] at hW7
                  obtain ⟨HT7,HY7,HP7,HB7⟩ := hW7
                  go_wp2_with fail
                  go_roundg (order.length - (m + 1))
                  case rel => exact ⟨m + 1,pre ++ [j],b1,Az,cz,by first | rfl | exact congrArg _ hkw | (simp [hkw]),rfl,by omega,by omega,HPre2,HG1,HP7,HB7⟩
                  all_goals omega
    · obtain rfl : kk = order.length := by omega
      have hkd : decide ((order.length : Int) < (order.length : Int)) = false := decide_eq_false (by omega)
      have h := H.out
      rw [List.drop_length] at h
      obtain rfl := Option.some.inj h
      clear h H
      go_wp2_with fail
      go_ret
      exact ⟨rfl,HB.out⟩
end Go.Proofs.Ytkoiffkonjpoiaa.Q
namespace Go.Proofs.Ytkoiffkonjpoiaa.Q
open Go.RowKit Go.Proofs.YtkoiffkonjpoiaaW.PrintWords Go.Proofs.YtkoiffkonjpoiaaW.PrintLast Go.Proofs.YtkoiffkonjpoiaaW.PrintMore Go.Proofs.YtkoiffkonjpoiaaX
attribute [local go_sem] max2_int min2_int max_two min_two max_three min_three max_four min_four
set_option linter.unusedVariables false
set_option linter.unusedSimpArgs false
theorem int_nil (W : World) {base : Nat} (hb : base ≤ W.heap.size) : Kd.R (Kd.int .i64) 3 (W.alloc (.cells #[] 3)) base (fun _ => True) (.slice (some ⟨W.heap.size,0,none⟩) 0 0) ([] : List Int) :=
  ⟨fun _ _ => trivial,[],World.ownsRow_lit (base := base) (e := 3) (size := 1) W #[] 0 hb (by decide) (by simp),⟨rfl,fun j p hj => by simp at hj⟩⟩
set_option maxHeartbeats 8000000 in
set_option maxRecDepth 100000 in
theorem First.calls (k : Nat) (A0 : Option Addr) (c0 : Nat) (l0 : List S40) (A1 : Option Addr) (c1 : Nat) (l : List S128) (hc0 : l0.length ≤ c0) (hc1 : l.length ≤ c1) :
    ∀ (n : Nat) (so : List Int) (b : Bool) (out : List Int),First.f k l0 l n so = some (b,out) → so.length + n ≤ 1000000 →
    ∀ (A2 : Option Addr) (c2 : Nat) (w : World),Kd.C k40 w A0 l0.length l0 → Kd.C k128 w A1 l.length l → Kd.C (Kd.int .i64) w A2 so.length so → so.length ≤ c2 →
    Calls Try.prog 93 #[.slice A0 l0.length c0,.slice A1 l.length c1,.slice A2 so.length c2] w fun e w' => ∃ A c,e = .returned (.tuple #[.slice A out.length c,.bool b]) ∧ out.length ≤ c ∧ Kd.C (Kd.int .i64) w' A out.length out ∧ Below w.heap.size w w' := by
  intro n
  induction n with
  | zero =>
    intro so b out h
    cases h
  | succ n ih =>
    intro so b out h hlen A2 c2 w hr0 hr1 hr2 hc2
    have HR0 := Lib.hid hr0
    have HR1 := Lib.hid hr1
    have HR2 := Lib.hid hr2
    have HC0 := Lib.hid hc0
    have HC1 := Lib.hid hc1
    have HC2 := Lib.hid hc2
    have IH := Lib.hid ih
    have HL := Lib.hid hlen
    have hl1 := hr1.2.1
    have hso : so.length ≤ 1000000 := by omega
    clear hr0 hr1 hr2 hc0 hc1 hc2 ih hlen
    rw [First.f] at h
    obtain ⟨fb,hF,h⟩ := Option.bind_eq_some_iff.1 h
    have HF := Lib.hid hF
    clear hF
    cases fb with
    | false =>
      rw [if_neg (by simp)] at h
      obtain ⟨rfl,rfl⟩ := Prod.mk.inj (Option.some.inj h)
      clear h
      go_enter Try.func93,Try.ntmps93
      go_wp2_with (go_at_call 90;refine (Fits.calls k A0 c0 l0 A1 c1 l A2 c2 so false _ HR0.out HC0.out HR1.out HC1.out HR2.out HC2.out HF.out).mono ?_;rintro e_ w1 ⟨rfl,hb⟩;have HB := Lib.hid hb;clear hb)
      go_ret2
      exact ⟨none,0,rfl,Nat.le_refl _,Kd.C_nil _ _,HB.out⟩
    | true =>
      rw [if_pos rfl] at h
      obtain ⟨wb,hwb⟩ : ∃ wb,wb = Whole.f l so := ⟨_,rfl⟩
      rw [← hwb] at h
      have HW := Lib.hid hwb
      clear hwb
      cases wb with
      | true =>
        rw [if_pos rfl] at h
        obtain ⟨rfl,rfl⟩ := Prod.mk.inj (Option.some.inj h)
        clear h
        go_enter Try.func93,Try.ntmps93
        go_wp2_with (first | (go_at_call 90;refine (Fits.calls k A0 c0 l0 A1 c1 l A2 c2 so true _ HR0.out HC0.out HR1.out HC1.out HR2.out HC2.out HF.out).mono ?_;rintro e_ w1 ⟨rfl,hb⟩;have HB := Lib.hid hb;clear hb) | (go_at_call 91;refine (Whole.calls A1 c1 l A2 c2 so _ (Kd.C_below HR1.out HB.out) HC1.out (Kd.C_below HR2.out HB.out) HC2.out).mono ?_;rintro e_ w2 ⟨rfl,hb⟩;rw [← HW.out];have HB2 := Lib.hid (below_step HB.out hb);clear hb))
        go_ret2
        exact ⟨A2,c2,rfl,HC2.out,Kd.C_below HR2.out HB2.out,HB2.out⟩
      | false =>
        rw [if_neg (by simp)] at h
        have H : Hid (firstGo (First.f k l0 l n) so ((List.range l.length).drop 0) = some (b,out)) := Lib.hid h
        clear h
        go_enter Try.func93,Try.ntmps93
        go_upto_block 0 with (first | (go_at_call 90;refine (Fits.calls k A0 c0 l0 A1 c1 l A2 c2 so true _ HR0.out HC0.out HR1.out HC1.out HR2.out HC2.out HF.out).mono ?_;rintro e_ w1 ⟨rfl,hb⟩;have HB := Lib.hid hb;clear hb) | (go_at_call 91;refine (Whole.calls A1 c1 l A2 c2 so _ (Kd.C_below HR1.out HB.out) HC1.out (Kd.C_below HR2.out HB.out) HC2.out).mono ?_;rintro e_ w2 ⟨rfl,hb⟩;rw [← HW.out];have HB2 := Lib.hid (below_step HB.out hb);clear hb))
        go_wp2_with fail
        go_loopg [22] l.length (fun gk v22 W => ∃ (i : Nat),v22 = .int .i64 (i : Int) ∧ i ≤ l.length ∧ l.length - i ≤ gk ∧ Hid (firstGo (First.f k l0 l n) so ((List.range l.length).drop i) = some (b,out)) ∧ Hid (Below w.heap.size w W))
        case atStart => exact ⟨0,rfl,by omega,by omega,H,HB2⟩
        case round =>
          clear H HB HB2
          obtain ⟨i,rfl,hi1,hgk,H,HB⟩ := hrel
          by_cases hi : i < l.length
          · have hdrop : (List.range l.length).drop i = i :: (List.range l.length).drop (i + 1) := by
              rw [List.drop_eq_getElem_cons (by simpa using hi),List.getElem_range]
            have h := H.out
            rw [hdrop,firstGo] at h
            obtain ⟨⟨x1,x2⟩,hx,h⟩ := Option.bind_eq_some_iff.1 h
            obtain ⟨so2,hs2⟩ : ∃ s,s = so ++ [(i : Int)] := ⟨_,rfl⟩
            have hs3 : so2.length + n ≤ 1000000 := by rw [hs2];have := HL.out;simp;omega
            rw [← hs2] at hx
            have HS2 := Lib.hid hs2
            have HS3 := Lib.hid hs3
            clear hs2 hs3
            have HX := Lib.hid hx
            have HN := Lib.hid h
            have HCa : Hid (Kd.C (Kd.int .i64) wr A2 so.length so) := Lib.hid (Kd.C_below HR2.out HB.out)
            clear hdrop h hx H
            have hid : decide ((i : Int) < (l.length : Int)) = true := decide_eq_true (by omega)
            have hiw : IntKind.i64.wrap ((i : Int) + 1) = (i : Int) + 1 := by rw [IntKind.wrap_i64];omega
            go_upto_region 9 with (first | ((with_reducible refine gate_builtin (b := .append) (xs := #[.tmp 28,.tmp 29]) rfl ?_);at_builtin;refine Kd.R_append_rows (Kd.int .i64) (w0 := wr) wr.heap.size rfl (.tmp 28) (.tmp 29) 110 3 (.int .i64 0) 8 rfl Try.underlying110 info3 rfl (by decide) (by omega) _ [] so A2 so.length c2 (fun _ => True) (fun _ => False) rfl rfl (int_nil wr (Nat.le_refl _)) (Kd.C_alloc HCa.out _) (fun _ _ h => h) (fun _ h => h.elim) (fun _ _ => trivial) (below_alloc (Below.refl _ _) _) (below_size (below_alloc (Below.refl _ _) _)) (by simp;omega) ?_;intro v30 w3 ho hb hg hat;rw [List.nil_append] at ho;have HO3 := Lib.hid ho;have HB3 := Lib.hid hb;clear ho hb hg hat) | ((with_reducible refine gate_builtin (b := .append) (xs := #[.tmp 30,.tmp 32]) rfl ?_);at_builtin;refine Kd.R_append (Kd.int .i64) (w0 := wr) wr.heap.size rfl (.tmp 30) (.tmp 32) 110 3 (.int .i64 0) 8 rfl Try.underlying110 info3 rfl (by decide) (by omega) v30 so (i : Int) [.int .i64 (i : Int)] (fun _ => True) (fun _ => False) rfl rfl rfl (fun _ hk => hk.elim) (fun _ _ => trivial) HO3.out HB3.out (below_size HB3.out) (by omega) ?_;intro v33 w4 ho hb hg hat;rw [← HS2.out] at ho;obtain ⟨Ao,co,eo⟩ := Kd.R_slice ho;subst eo;have HO4 := Lib.hid (Kd.R_reads' ho).2;have HB4 := Lib.hid (below_step HB.out hb);clear ho hb hg hat) | (go_at_call 93;refine Calls.mono (IH.out so2 x1 x2 HX.out HS3.out Ao co _ (Kd.C_below HR0.out HB4.out) (Kd.C_below HR1.out HB4.out) HO4.out.2 HO4.out.1) ?_;rintro e_ w5 ⟨Ax,cx,rfl,hcx,hCx,hb⟩;have HX5 := Lib.hid (And.intro hcx hCx);have HB5 := Lib.hid (below_step HB4.out hb);clear hcx hCx hb))
            cases x1 with
            | true =>
              have h := HN.out
              rw [if_pos rfl] at h
              obtain ⟨rfl,rfl⟩ := Prod.mk.inj (Option.some.inj h)
              clear h HN
              go_wp2_with fail
              go_ret2
              exact ⟨Ax,cx,rfl,HX5.out.1,HX5.out.2,HB5.out⟩
            | false =>
              have h := HN.out
              rw [if_neg (by simp)] at h
              have HN2 := Lib.hid h
              clear h HN
              go_wp2_with fail
              go_roundg (l.length - (i + 1))
              case rel => exact ⟨i + 1,by first | rfl | exact congrArg _ hiw | (simp [hiw]),by omega,by omega,HN2,HB5⟩
              all_goals omega
          · obtain rfl : i = l.length := by omega
            have hid : decide ((l.length : Int) < (l.length : Int)) = false := decide_eq_false (by omega)
            have h := H.out
            rw [List.drop_eq_nil_of_le (by simp),firstGo] at h
            obtain ⟨rfl,rfl⟩ := Prod.mk.inj (Option.some.inj h)
            clear h
            go_wp2_with fail
            go_ret2
            exact ⟨none,0,rfl,Nat.le_refl _,Kd.C_nil _ _,HB.out⟩
end Go.Proofs.Ytkoiffkonjpoiaa.Q
namespace Go.Proofs.Ytkoiffkonjpoiaa.Q
open Go.RowKit Go.Proofs.YtkoiffkonjpoiaaW.PrintWords Go.Proofs.YtkoiffkonjpoiaaW.PrintLast Go.Proofs.YtkoiffkonjpoiaaW.PrintMore Go.Proofs.YtkoiffkonjpoiaaX
attribute [local go_sem] max2_int min2_int max_two min_two max_three min_three max_four min_four
set_option linter.unusedVariables false
set_option linter.unusedSimpArgs false
def awA : S128 := ⟨0,⟨1,1,0,5⟩,0,9,⟨0,false,0,0,[],false⟩⟩
def awB : S128 := ⟨0,⟨0,1,0,0⟩,2,3,⟨0,true,0,5,[],false⟩⟩
set_option maxRecDepth 100000 in
theorem aw_order : Order.f 40 [] [awA,awB] = some (true,[0,1]) := by kernel_rfl
set_option maxRecDepth 100000 in
theorem aw_legal : Legal.f 40 [] [awA,awB] [0,1] = some true := by kernel_rfl
set_option maxRecDepth 100000 in
theorem aw_not : Legal.f 40 [] [awA,awB] [1,0] = some false := by kernel_rfl
def awC : List Value := [.int .i64 0,.int .u8 1,.int .i64 1,.int .i64 0,.int .i64 5,.int .i64 0,.int .i64 9,.int .i64 0,.bool false,.int .i64 0,.int .i64 0,.slice none 0 0,.bool false,.int .i64 0,.int .u8 0,.int .i64 1,.int .i64 0,.int .i64 0,.int .i64 2,.int .i64 3,.int .i64 0,.bool true,.int .i64 0,.int .i64 5,.slice none 0 0,.bool false]
theorem aw_reps (W : World) (base : Nat) (ok : Nat → Prop) : Reps (k128.M W base ok) k128.sz [awA,awB] awC := by
  refine ⟨rfl,fun j x hx => ?_⟩
  match j with
  | 0 => cases hx;exact k128_mkM W base ok awA (v11 := .slice none 0 0) (Kd.R_nil _ _ _ _ _)
  | 1 => cases hx;exact k128_mkM W base ok awB (v11 := .slice none 0 0) (Kd.R_nil _ _ _ _ _)
  | j + 2 => simp at hx
theorem two_reps (a b : Int) (W : World) (base : Nat) (ok : Nat → Prop) : Reps ((Kd.int .i64).M W base ok) (Kd.int .i64).sz [a,b] [.int .i64 a,.int .i64 b] := (reps_flat (flat_int .i64) (fun x cs => (flat_int .i64).M W base ok x cs)).2 rfl
theorem below_of_grown {W W1 : World} (h : W.grownBy W1 none) : Below W.heap.size W W1 := ⟨h.os,h.tape,h.output,h.size,fun k hk => h.block k hk (by simp)⟩
set_option maxHeartbeats 8000000 in
set_option maxRecDepth 100000 in
theorem Awake22.calls (w : World) : Calls Try.prog 84 #[] w fun e w' => e = .returned (.bool true) ∧ Below w.heap.size w w' := by
  have hu128 := Try.underlying128
  have hu84 := Try.underlying84
  have hu78 := Try.underlying78
  go_enter Try.func84,Try.ntmps84
  go_upto_region 3 with (first | ((with_reducible refine gate_dst (N := 9) rfl ?_);refine Kd.R_lit k128 (w0 := w) w.heap.size 128 ?hg (N := 9) ?hd (xs := [awA,awB]) (inner := awC) (ok := fun _ => True) (okp := fun _ => True) ?hr ?hp (fun _ hk => hk) trivial (Below.refl _ _) (Nat.le_refl _) (by simp) ?_;(case hd => rfl);(case hg => rfl);(case hr => first | (go_simp;done) | (go_simp;rfl));(case hp => exact aw_reps _ _ _);intro v9 w1 ho hb hg_ hnew_;clear hg_ hnew_;obtain ⟨A9,c9,e9⟩ := Kd.R_slice ho;subst e9;have HE := Lib.hid (Kd.R_reads' ho).2;have HB := Lib.hid hb;clear ho hb) | (go_at_call 92;refine (Order.calls 40 none 0 [] A9 c9 [awA,awB] true [0,1] _ (Kd.C_nil _ _) (Nat.le_refl _) HE.out.2 HE.out.1 aw_order).mono ?_;rintro e_ w2 ⟨v2,rfl,hO,hb2⟩;obtain ⟨Ao,co,eo⟩ := Kd.R_slice hO;subst eo;have HO := Lib.hid (Kd.R_reads' hO).2;have HE2 := Lib.hid (And.intro HE.out.1 (Kd.C_below HE.out.2 hb2));have HB2 := Lib.hid (below_step HB.out hb2);clear hO hb2))
  obtain ⟨ad,ea,x0⟩ := Kd.at_int HO.out.2 0 (by decide) (by decide)
  subst ea
  have x0' : w2.cell? (ad.add 0) = some (.int .i64 0) := x0
  have ea0 : ad.add 0 = ad := by simp [Addr.add]
  have x0'' : w2.cell? ad = some (.int .i64 0) := by rw [← ea0];exact x0
  have hlen : (toI [0,1]).length = 2 := rfl
  clear x0
  go_wp2_with ((with_reducible refine gate_dst (N := 29) rfl ?_);(try (refine gate_guard (by rfl) ?_;dsimp only));refine Kd.R_lit (Kd.int .i64) (w0 := w) w.heap.size 3 ?hg (N := 29) ?hd (xs := [0,1]) (inner := [.int .i64 0,.int .i64 1]) (ok := fun _ => True) (okp := fun _ => True) ?hr ?hp (fun _ hk => hk) trivial HB2.out (below_size HB2.out) (by simp) ?_;(case hd => rfl);(case hg => rfl);(case hr => first | (go_simp;done) | (go_simp;rfl));(case hp => exact two_reps _ _ _ _ _);intro v29 w29 ho hb hg_ hnew_;have HG29B := Lib.hid (below_of_grown hg_);clear hg_ hnew_;obtain ⟨A29,c29,e29⟩ := Kd.R_slice ho;subst e29;have HL29 := Lib.hid (Kd.R_reads' ho).2;have HB29 := Lib.hid hb;clear ho hb)
  refine (Legal.calls 40 none 0 [] A9 c9 [awA,awB] A29 c29 [0,1] true _ (Kd.C_nil _ _) (Nat.le_refl _) (Kd.C_below HE2.out.2 HG29B.out) HE2.out.1 HL29.out.2 HL29.out.1 aw_legal).mono ?_
  rintro e_ w3 ⟨rfl,hb2⟩
  have HB3 := Lib.hid (below_step HB29.out hb2)
  have HE3 := Lib.hid (And.intro HE2.out.1 (Kd.C_below (Kd.C_below HE2.out.2 HG29B.out) hb2))
  clear hb2
  go_wp2_with ((with_reducible refine gate_dst (N := 34) rfl ?_);(try (refine gate_guard (by rfl) ?_;dsimp only));refine Kd.R_lit (Kd.int .i64) (w0 := w) w.heap.size 3 ?hg (N := 34) ?hd (xs := [1,0]) (inner := [.int .i64 1,.int .i64 0]) (ok := fun _ => True) (okp := fun _ => True) ?hr ?hp (fun _ hk => hk) trivial HB3.out (below_size HB3.out) (by simp) ?_;(case hd => rfl);(case hg => rfl);(case hr => first | (go_simp;done) | (go_simp;rfl));(case hp => exact two_reps _ _ _ _ _);intro v34 w34 ho hb hg_ hnew_;have HG34B := Lib.hid (below_of_grown hg_);clear hg_ hnew_;obtain ⟨A34,c34,e34⟩ := Kd.R_slice ho;subst e34;have HL34 := Lib.hid (Kd.R_reads' ho).2;have HB34 := Lib.hid hb;clear ho hb)
  refine (Legal.calls 40 none 0 [] A9 c9 [awA,awB] A34 c34 [1,0] false _ (Kd.C_nil _ _) (Nat.le_refl _) (Kd.C_below HE3.out.2 HG34B.out) HE3.out.1 HL34.out.2 HL34.out.1 aw_not).mono ?_
  rintro e_ w4 ⟨rfl,hb2⟩
  have HB4 := Lib.hid (below_step HB34.out hb2)
  have HE4 := Lib.hid (And.intro HE3.out.1 (Kd.C_below (Kd.C_below HE3.out.2 HG34B.out) hb2))
  clear hb2
  go_wp2_with fail
  go_ret
  exact ⟨rfl,HB4.out⟩
end Go.Proofs.Ytkoiffkonjpoiaa.Q
namespace Go.Proofs.Ytkoiffkonjpoiaa.Q
open Go.RowKit Go.Proofs.YtkoiffkonjpoiaaW.PrintWords Go.Proofs.YtkoiffkonjpoiaaW.PrintLast Go.Proofs.YtkoiffkonjpoiaaW.PrintMore Go.Proofs.YtkoiffkonjpoiaaX
set_option linter.unusedVariables false
set_option linter.unusedSimpArgs false
set_option maxHeartbeats 4000000 in
set_option maxRecDepth 100000 in
theorem few22.calls (A0 : Option Addr) (c0 : Nat) (l0 : List Int) (A1 : Option Addr) (c1 : Nat) (l1 : List S126) (m : Int) (fb : Bool) (w : World) (hf : (decide ((l0.length : Int) ≤ 8) && decide ((l1.length : Int) ≤ m)) = fb) :
    Calls Try.prog 85 #[.slice A0 l0.length c0,.slice A1 l1.length c1,.int .i64 m] w fun e w' => e = .returned (.bool fb) ∧ Below w.heap.size w w' := by
  by_cases h0 : (l0.length : Int) ≤ 8
  · have hd : decide ((l0.length : Int) ≤ 8) = true := decide_eq_true h0
    have hd' : decide (l0.length ≤ 8) = true := decide_eq_true (by omega)
    rw [hd,Bool.true_and] at hf
    obtain ⟨x,hx⟩ : ∃ x,x = decide ((l1.length : Int) ≤ m) := ⟨_,rfl⟩
    rw [← hx] at hf
    subst hf
    have hx' := hx.symm
    clear h0 hx
    go_enter Try.func85,Try.ntmps85
    go_wp2_with fail
    go_ret
    exact ⟨rfl,Below.refl _ _⟩
  · have hd : decide ((l0.length : Int) ≤ 8) = false := decide_eq_false h0
    have hd' : decide (l0.length ≤ 8) = false := decide_eq_false (by omega)
    rw [hd,Bool.false_and] at hf
    subst hf
    clear h0
    go_enter Try.func85,Try.ntmps85
    go_wp2_with fail
    go_ret
    exact ⟨rfl,Below.refl _ _⟩
end Go.Proofs.Ytkoiffkonjpoiaa.Q
namespace Go.Proofs.YtkoiffkonjpoiaaX
open Go.RowKit Go.ChangeShapes Go.WideShapes Go.Deep Go.Proofs.YtkoiffkonjpoiaaW.PrintWords Go.Proofs.YtkoiffkonjpoiaaW.PrintMore

/-- Cells of type t that are read are of kind d, and what they say is ok. -/
def Rd (P : Program) (t : TypeId) {α : Type} (d : Kd α) (ok : α → Prop) : Prop :=
  ∀ (H : Type) (enc : TypeId × Value → H) (w : World) (spare : Nat → Bool) (held : Bool) (fuel : Nat) (cs : List Value) (x : DataW H × List MemPlace),
    DataW.trod enc P w 0 spare held fuel t cs = some x → ∃ a,d.K w a cs ∧ ok a

theorem Rd.int {P : Program} {t : TypeId} {k : IntKind} (ht : P.underlying t = some (.int k)) : Rd P t (Kd.int k) (fun n => (Lit.int k n).wf = true) := by
  intro H enc w spare held fuel cs x h
  obtain ⟨n,rfl,_,hw⟩ := DataW.trod_int ht h
  exact ⟨n,rfl,hw⟩
theorem Rd.bool {P : Program} {t : TypeId} (ht : P.underlying t = some .bool) : Rd P t Kd.bool (fun _ => True) := by
  intro H enc w spare held fuel cs x h
  obtain ⟨b,rfl,_⟩ := DataW.trod_bool ht h
  exact ⟨b,rfl,trivial⟩
theorem Rd.iso {P : Program} {t : TypeId} {α β : Type} {d : Kd α} {ok : α → Prop} {f : β → α} (g : α → β) (hg : ∀ a,f (g a) = a) (h : Rd P t d ok) : Rd P t (Kd.iso d f) (fun x => ok (f x)) := by
  intro H enc w spare held fuel cs x hx
  obtain ⟨a,ha,hok⟩ := h H enc w spare held fuel cs x hx
  exact ⟨g a,by show d.K w (f (g a)) cs;rw [hg];exact ha,by show ok (f (g a));rw [hg];exact hok⟩

/-- The fields from cell o on are of kind d. -/
def RdF (P : Program) (fs : List Field) (o : Nat) {α : Type} (d : Kd α) (ok : α → Prop) : Prop :=
  ∀ (H : Type) (enc : TypeId × Value → H) (w : World) (spare : Nat → Bool) (held : Bool) (fuel : Nat) (cs : List Value) (xs : List (DataW H × List MemPlace)),
    cs.length = o + d.sz → xs.length = fs.length → (∀ (i : Nat) (f : Field),fs[i]? = some f → DataW.trod enc P w 0 spare held fuel f.type ((cs.drop f.offset).take (P.cellsOf f.type)) = xs[i]?) → ∃ a,d.K w a (cs.drop o) ∧ ok a

theorem RdF.one {P : Program} {f : Field} {o : Nat} {α : Type} {d : Kd α} {ok : α → Prop} (ho : f.offset = o) (hc : P.cellsOf f.type = d.sz) (h : Rd P f.type d ok) : RdF P [f] o d ok := by
  intro H enc w spare held fuel cs xs hl hx hf
  obtain ⟨x,rfl⟩ : ∃ x,xs = [x] := by
    match xs,hx with
    | [x],_ => exact ⟨x,rfl⟩
  have h1 := hf 0 f rfl
  rw [ho,hc,List.take_of_length_le (by rw [List.length_drop];omega)] at h1
  exact h H enc w spare held fuel _ _ h1
theorem RdF.cons {P : Program} {f : Field} {fs : List Field} {o : Nat} {α β : Type} {a : Kd α} {b : Kd β} {oka : α → Prop} {okb : β → Prop} (ho : f.offset = o) (hc : P.cellsOf f.type = a.sz) (h : Rd P f.type a oka) (hs : RdF P fs (o + a.sz) b okb) :
    RdF P (f :: fs) o (Kd.pair a b) (fun x => oka x.1 ∧ okb x.2) := by
  intro H enc w spare held fuel cs xs hl hx hf
  have hsz : (Kd.pair a b).sz = a.sz + b.sz := rfl
  obtain ⟨x,ys,rfl⟩ : ∃ x ys,xs = x :: ys := by
    match xs,hx with
    | x :: ys,_ => exact ⟨x,ys,rfl⟩
  have h1 := hf 0 f rfl
  rw [ho,hc] at h1
  obtain ⟨u,hu,ou⟩ := h H enc w spare held fuel _ _ h1
  obtain ⟨v,hv,ov⟩ := hs H enc w spare held fuel cs ys (by omega) (by simpa using hx) (fun i f' hi => hf (i + 1) f' hi)
  exact ⟨(u,v),⟨_,_,by rw [← List.drop_drop];exact (List.take_append_drop _ _).symm,hu,hv⟩,ou,ov⟩
theorem Rd.struct {P : Program} {t : TypeId} {fs : Array Field} {α : Type} {d : Kd α} {ok : α → Prop} (ht : P.underlying t = some (.struct fs)) (hc : P.cellsOf t = d.sz) (h : RdF P fs.toList 0 d ok) : Rd P t d ok := by
  intro H enc w spare held fuel cs x hx
  obtain ⟨xs,n,_,_,hl,hxl,hf⟩ := DataW.trod_struct ht hx
  have h1 := h H enc w spare held n cs xs (by rw [hl,hc,Nat.zero_add]) (by rw [hxl];simp) (fun i f hi => hf i f (by simpa using hi))
  rwa [List.drop_zero] at h1
theorem Rd.slice {P : Program} {t e : TypeId} {α : Type} {d : Kd α} {ok : α → Prop} (ht : P.underlying t = some (.slice e)) (hc : P.cellsOf e = d.sz) (h : Rd P e d ok) :
    Rd P t (Kd.slice e d) (fun l => l.length ≤ 9223372036854775807 ∧ ∀ x ∈ l,ok x) := by
  intro H enc w spare held fuel cs x hx
  rcases open_slice ht hx with ⟨rfl,_⟩ | ⟨a,len,cap,m,n,D,Pl,rfl,_,hl,hm,hmm,_,hel⟩
  · exact ⟨[],⟨none,0,rfl,Nat.le_refl _,rfl,by simp,fun h0 => absurd h0 (by simp)⟩,by simp,by simp⟩
  · have hlm : len ≤ m := by rw [hmm];split <;> omega
    have hml : maxLen = 9223372036854775807 := by decide
    have each : ∀ i,i < len → ∃ y,ok y ∧ ∃ c : List Value,c.length = d.sz ∧ d.K w y c ∧ ∀ j u,c[j]? = some u → w.cell? (a.add (i * d.sz + j)) = some u := by
      intro i hi
      obtain ⟨cs',h1,h2⟩ := hel i (by omega)
      obtain ⟨y,hy,hok⟩ := h H enc w spare held n cs' _ h2
      obtain ⟨_,hlen,hcell⟩ := World.cells?_some h1
      refine ⟨y,hok,cs',by rw [hlen,hc],hy,fun j u hu => ?_⟩
      have hj : j < cs'.length := by
        rcases Nat.lt_or_ge j cs'.length with h | h
        · exact h
        · rw [List.getElem?_eq_none h] at hu;cases hu
      have := hcell j (by omega)
      rw [Go.Deep.add_add,hc] at this
      rw [this];simpa using hu
    let g : Fin len → α := fun i => Classical.choose (each i.1 i.2)
    have hg : ∀ i : Fin len,_ := fun i => Classical.choose_spec (each i.1 i.2)
    refine ⟨List.ofFn g,⟨some a,cap,by rw [List.length_ofFn],by rw [List.length_ofFn];exact hl,rfl,by rw [List.length_ofFn];omega,fun _ => ⟨a,rfl,fun j p hp => ?_⟩⟩,by rw [List.length_ofFn];omega,fun y hy => ?_⟩
    · obtain ⟨hj,hp⟩ := List.getElem?_eq_some_iff.1 hp
      rw [List.length_ofFn] at hj
      rw [List.getElem_ofFn] at hp
      subst hp
      exact (hg ⟨j,hj⟩).2
    · obtain ⟨i,rfl⟩ := List.mem_ofFn.1 hy
      exact (hg i).1

/-- An argument that is a slice. -/
theorem Rd.argSlice {P : Program} {t e : TypeId} {α : Type} {d : Kd α} {ok : α → Prop} (ht : P.underlying t = some (.slice e)) (hc : P.cellsOf e = d.sz) (hd : Rd P e d ok) {H : Type} {enc : TypeId × Value → H} {W : World} {spare : Nat → Bool} {held : Bool} {r : Reach} {b : Nat} {v : Value} {x : DataW H} {ps : List MemPlace}
    (hv : Value.okWide P W r b t v) (h : DataW.Trod enc P W 0 spare held t v x ps) : ∃ (A : Option Addr) (c : Nat) (l : List α),v = .slice A l.length c ∧ Kd.C d W A l.length l ∧ l.length ≤ c ∧ l.length ≤ 9223372036854775807 ∧ ∀ y ∈ l,ok y := by
  obtain ⟨A,len,cap,rfl⟩ := okWide_slice ht hv
  obtain ⟨fuel,hf⟩ := h
  obtain ⟨l,⟨A',c,he,hl,hC⟩,h1,h2⟩ := Rd.slice ht hc hd H enc W spare held fuel _ _ hf
  simp [Value.cells] at he
  obtain ⟨rfl,rfl,rfl⟩ := he
  exact ⟨A,_,l,rfl,hC,hl,h1,h2⟩
end Go.Proofs.YtkoiffkonjpoiaaX
namespace Go.Proofs.YtkoiffkonjpoiaaX

theorem wordsSigns_word : ∀ (w r : List Char),w.all (· != (Char.ofNat 32)) = true → wordsSigns (w ++ (Char.ofNat 32) :: r) = w :: wordsSigns r
  | [],r,_ => by rw [List.nil_append];simp only [wordsSigns]
  | c :: w,r,h => by
    rw [List.all_cons,Bool.and_eq_true] at h
    have hc : c ≠ (Char.ofNat 32) := by simpa using h.1
    rw [List.cons_append,wordsSigns]
    · rw [wordsSigns_word w r h.2]
    · exact fun hh => hc hh

def rest : List Char := (List.map Char.ofNat [97,116,32,98,111,115,99,97,103,101,47,98,111,115,99,97,103,101,108,97,119,48,51,46,73,110,110,101,114,87,97,121,115,32,98,111,115,99,97,103,101,47,98,111,115,99,97,103,101,108,97,119,48,51,46,73,110,110,101,114,65,110,121,32,98,111,115,99,97,103,101,47,98,111,115,99,97,103,101,108,97,119,48,50,46,76,101,97,102,71,101,116,115,32,98,111,115,99,97,103,101,47,98,111,115,99,97,103,101,108,97,119,48,50,46,76,101,97,102,72,97,108,118,101,115,32,98,111,115,99,97,103,101,47,98,111,115,99,97,103,101,108,97,119,48,51,46,73,110,110,101,114,87,105,116,104,32,98,111,115,99,97,103,101,47,98,111,115,99,97,103,101,108,97,119,48,51,46,73,110,110,101,114,80,97,114,116,115,32,98,111,115,99,97,103,101,47,98,111,115,99,97,103,101,108,97,119,48,51,46,73,110,110,101,114,84,117,114,110,115,32,98,111,115,99,97,103,101,47,98,111,115,99,97,103,101,108,97,119,48,51,46,73,110,110,101,114,74,111,105,110,115,32,98,111,115,99,97,103,101,47,98,111,115,99,97,103,101,108,97,119,48,50,46,76,101,97,102,74,111,105,110,115,32,98,111,115,99,97,103,101,47,98,111,115,99,97,103,101,108,97,119,48,50,46,76,101,97,102,82,105,115,101,115,32,98,111,115,99,97,103,101,47,98,111,115,99,97,103,101,108,97,119,48,50,46,76,101,97,102,66,101,116,119,101,101,110,32,98,111,115,99,97,103,101,47,98,111,115,99,97,103,101,108,97,119,48,50,46,76,101,97,102,67,117,116,115,32,98,111,115,99,97,103,101,47,98,111,115,99,97,103,101,108,97,119,48,50,46,76,101,97,102,80,117,116,115,32,98,111,115,99,97,103,101,47,98,111,115,99,97,103,101,108,97,119,48,50,46,76,101,97,102,85,110,100,111,101,115,32,98,111,115,99,97,103,101,47,98,111,115,99,97,103,101,108,97,119,48,50,46,76,101,97,102,67,104,97,105,110,115,32,98,111,115,99,97,103,101,47,98,111,115,99,97,103,101,108,97,119,48,50,46,76,101,97,102,75,101,101,112,115,32,98,111,115,99,97,103,101,47,98,111,115,99,97,103,101,108,97,119,49,56,46,77,111,100,101,108,83,112,97,110,115,32,98,111,115,99,97,103,101,47,98,111,115,99,97,103,101,108,97,119,49,56,46,77,111,100,101,108,79,102,32,98,111,115,99,97,103,101,47,98,111,115,99,97,103,101,108,97,119,49,56,46,77,111,100,101,108,65,112,112,108,105,101,115,32,98,111,115,99,97,103,101,47,98,111,115,99,97,103,101,108,97,119,49,56,46,77,111,100,101,108,67,104,97,105,110,115,32,98,111,115,99,97,103,101,47,98,111,115,99,97,103,101,108,97,119,49,56,46,77,111,100,101,108,65,103,114,101,101,32,98,111,115,99,97,103,101,47,98,111,115,99,97,103,101,108,97,119,48,51,46,73,110,110,101,114,65,98,115,111,114,98,115,32,98,111,115,99,97,103,101,47,98,111,115,99,97,103,101,108,97,119,48,51,46,73,110,110,101,114,82,111,117,116,101,115,32,98,111,115,99,97,103,101,47,98,111,115,99,97,103,101,108,97,119,49,56,46,77,111,100,101,108,78,117,109,98,101,114,115,32,98,111,115,99,97,103,101,47,98,111,115,99,97,103,101,108,97,119,49,56,46,77,111,100,101,108,83,97,109,101,32,98,111,115,99,97,103,101,47,98,111,115,99,97,103,101,108,97,119,48,51,46,73,110,110,101,114,77,101,114,103,101,115,32,98,111,115,99,97,103,101,47,98,111,115,99,97,103,101,108,97,119,49,56,46,77,111,100,101,108,77,97,107,101,115,32,98,111,115,99,97,103,101,47,98,111,115,99,97,103,101,108,97,119,48,51,46,73,110,110,101,114,75,101,101,112,115,32,98,111,115,99,97,103,101,47,98,111,115,99,97,103,101,108,97,119,50,50,46,83,116,111,114,121,76,101,103,97,108,32,98,111,115,99,97,103,101,47,98,111,115,99,97,103,101,108,97,119,50,50,46,83,116,111,114,121,79,114,100,101,114,115,32,98,111,115,99,97,103,101,47,98,111,115,99,97,103,101,108,97,119,50,50,46,83,116,111,114,121,70,105,110,100,115,32,98,111,115,99,97,103,101,47,98,111,115,99,97,103,101,108,97,119,50,50,46,83,116,111,114,121,79,110,101,32,98,111,115,99,97,103,101,47,98,111,115,99,97,103,101,108,97,119,50,50,46,83,116,111,114,121,87,105,100,101,114,32,98,111,115,99,97,103,101,47,98,111,115,99,97,103,101,108,97,119,50,50,46,83,116,111,114,121,78,111,110,101,32,98,111,115,99,97,103,101,47,98,111,115,99,97,103,101,108,97,119,50,50,46,83,116,111,114,121,77,111,115,116])
theorem order : Go.Proofs.Try.prog.initOrder = String.ofList ((List.map Char.ofNat [104,97,114,110,101,115,115]) ++ (Char.ofNat 32) :: ((List.map Char.ofNat [50,98,99,54,102,57,52,101,100,54,57,100,98,102,55,99,51,51,48,97,57,49,52,100,49,53,49,101,50,50,48,102,52,98,55,48,49,101,56,49,56,99,98,98,55,100,54,57,101,49,48,51,53,98,50,53,56,99,97,53,57,99,99,99]) ++ (Char.ofNat 32) :: ((List.map Char.ofNat [99,117,116]) ++ (Char.ofNat 32) :: rest))) := by kernel_rfl
theorem words : wordsSigns Go.Proofs.Try.prog.initOrder.toList = (List.map Char.ofNat [104,97,114,110,101,115,115]) :: (List.map Char.ofNat [50,98,99,54,102,57,52,101,100,54,57,100,98,102,55,99,51,51,48,97,57,49,52,100,49,53,49,101,50,50,48,102,52,98,55,48,49,101,56,49,56,99,98,98,55,100,54,57,101,49,48,51,53,98,50,53,56,99,97,53,57,99,99,99]) :: (List.map Char.ofNat [99,117,116]) :: wordsSigns rest := by
  rw [order,String.toList_ofList,wordsSigns_word _ _ (by decide +kernel),wordsSigns_word _ _ (by decide +kernel),wordsSigns_word _ _ (by decide +kernel)]
theorem behind : behindMainWord (wordsSigns Go.Proofs.Try.prog.initOrder.toList) = (List.map Char.ofNat [99,117,116]) :: wordsSigns rest := by
  rw [words];generalize wordsSigns rest = r;kernel_rfl
theorem mayEnter_of (P : Program) (r : List (List Char)) (h : behindMainWord (wordsSigns P.initOrder.toList) = (List.map Char.ofNat [99,117,116]) :: r) (h1 : P.laysLater = false) (h2 : P.bearsReflect = false) (h3 : P.doorFits [] = true) : P.mayEnter = true := by
  have hs : stripLifts liftWords ((List.map Char.ofNat [99,117,116]) :: r) = ([],(List.map Char.ofNat [99,117,116]) :: r) := by kernel_rfl
  unfold Program.mayEnter; rw [h]; dsimp only []; rw [hs, h1, h2, h3]; simp only [List.head?_cons, Bool.not_false, Bool.or_true, Bool.and_true, List.contains_nil]; have hc : (some (List.map Char.ofNat [99, 117, 116]) == some "cut".toList) = true := (by kernel_rfl); rw [hc, Bool.or_true]
theorem liftsFinal_of (P : Program) (r : List (List Char)) (h : behindMainWord (wordsSigns P.initOrder.toList) = (List.map Char.ofNat [99,117,116]) :: r) : P.liftsFinal = false := by
  unfold Program.liftsFinal Program.headLifts;rw [h];kernel_rfl
theorem make_of (P : Program) (r : List (List Char)) (h : behindMainWord (wordsSigns P.initOrder.toList) = (List.map Char.ofNat [99,117,116]) :: r) : P.make = some .cut := by
  unfold Program.make;rw [h];generalize P.headLifts = q;kernel_rfl
theorem laysLater : Go.Proofs.Try.prog.laysLater = false := by kernel_rfl
theorem bearsReflect : Go.Proofs.Try.prog.bearsReflect = false := by kernel_rfl
theorem doorFits : Go.Proofs.Try.prog.doorFits [] = true := by kernel_rfl
theorem mayEnter : Go.Proofs.Try.prog.mayEnter = true := mayEnter_of _ _ behind laysLater bearsReflect doorFits
theorem liftsFinal : Go.Proofs.Try.prog.liftsFinal = false := liftsFinal_of _ _ behind
theorem make : Go.Proofs.Try.prog.make = some .cut := make_of _ _ behind
end Go.Proofs.YtkoiffkonjpoiaaX
namespace Go.Proofs.Ytkoiffkonjpoiaa.X
open Go.RowKit Go.Proofs.YtkoiffkonjpoiaaX Go.Proofs.YtkoiffkonjpoiaaW.PrintWords Go.Proofs.YtkoiffkonjpoiaaW.PrintMore
abbrev wf (n : Int) : Prop := (Lit.int .i64 n).wf = true
abbrev wf8 (n : Int) : Prop := (Lit.int .u8 n).wf = true
def ok78 (x : Q.S78) : Prop := wf8 x.f0 ∧ wf x.f1 ∧ wf x.f2 ∧ wf x.f3
theorem rd2 : Rd Try.prog 2 (Kd.int .i64) wf := Rd.int Try.underlying2
theorem rd76 : Rd Try.prog 76 (Kd.int .u8) wf8 := Rd.int Try.underlying76
theorem rd78 : Rd Try.prog 78 Q.k78 ok78 :=
  Rd.iso (fun p => ⟨p.1,p.2.1,p.2.2.1,p.2.2.2⟩) (fun _ => rfl) (Rd.struct Try.underlying78 (by kernel_rfl) (RdF.cons rfl (by kernel_rfl) rd76 (RdF.cons rfl (by kernel_rfl) rd2 (RdF.cons rfl (by kernel_rfl) rd2 (RdF.one rfl (by kernel_rfl) rd2)))))
end Go.Proofs.Ytkoiffkonjpoiaa.X
namespace Go.Proofs.Ytkoiffkonjpoiaa.X
open Go.RowKit Go.Proofs.YtkoiffkonjpoiaaX Go.Proofs.YtkoiffkonjpoiaaW.PrintWords Go.Proofs.YtkoiffkonjpoiaaW.PrintMore
def ok126 (x : Q.S126) : Prop := ok78 x.f0 ∧ wf8 x.f1 ∧ wf8 x.f2 ∧ wf8 x.f3
theorem rd5 : Rd Try.prog 5 (Kd.int .u8) wf8 := Rd.int Try.underlying5
theorem rd126 : Rd Try.prog 126 Q.k126 ok126 :=
  Rd.iso (fun p => ⟨p.1,p.2.1,p.2.2.1,p.2.2.2⟩) (fun _ => rfl) (Rd.struct Try.underlying126 (by kernel_rfl) (RdF.cons rfl (by kernel_rfl) rd78 (RdF.cons rfl (by kernel_rfl) rd5 (RdF.cons rfl (by kernel_rfl) rd5 (RdF.one rfl (by kernel_rfl) rd5)))))
theorem wf8_bounds {n : Int} (h : wf8 n) : 0 ≤ n ∧ n < 256 := by
  have h' : (decide (IntKind.u8.min ≤ n) && decide (n ≤ IntKind.u8.max)) = true := h
  rw [Bool.and_eq_true,decide_eq_true_iff,decide_eq_true_iff] at h'
  have e1 : IntKind.u8.min = 0 := by decide
  have e2 : IntKind.u8.max = 255 := by decide
  omega
end Go.Proofs.Ytkoiffkonjpoiaa.X
namespace Go.Proofs.Ytkoiffkonjpoiaa.Y
open Go.RowKit Go.Proofs.Ytkoiffkonjpoiaa.Q Go.Proofs.YtkoiffkonjpoiaaW.PrintWords
set_option linter.unusedVariables false
set_option linter.unusedSimpArgs false

theorem wrap_succ (n : Nat) (h : n < 9223372036854775807) : wrap64 ((n : Int) + 1) = ((n + 1 : Nat) : Int) := by unfold wrap64;omega
theorem wrap_in (x : Int) (h0 : -9223372036854775808 ≤ x) (h1 : x ≤ 9223372036854775807) : wrap64 x = x := by unfold wrap64;omega
theorem rd_mid (A B : List S40) (p : S40) : rd_T40 (A ++ p :: B) (A.length : Int) = p := by
  simp [rd_T40]
theorem rdi_mid (A B : List Int) (p : Int) : rd (A ++ p :: B) (A.length : Int) = p := by
  simp [rd]
theorem eta40 (p : S40) : (⟨p.f0,p.f1⟩ : S40) = p := rfl

theorem eq40 (a b : S40) : a = b ↔ a.f0 = b.f0 ∧ a.f1 = b.f1 := by
  obtain ⟨a0,a1⟩ := a
  obtain ⟨b0,b1⟩ := b
  simp
instance : DecidableEq S40 := fun a b => decidable_of_iff (a.f0 = b.f0 ∧ a.f1 = b.f1) (eq40 a b).symm

end Go.Proofs.Ytkoiffkonjpoiaa.Y
namespace Go.Proofs.Ytkoiffkonjpoiaa.Y
open Go.RowKit Go.Proofs.Ytkoiffkonjpoiaa.Q Go.Proofs.YtkoiffkonjpoiaaW.PrintWords Go.Proofs.YtkoiffkonjpoiaaW.PrintLast Go.Proofs.YtkoiffkonjpoiaaW.PrintMore
theorem wf_bounds {n : Int} (h : (Lit.int .i64 n).wf = true) : -9223372036854775808 ≤ n ∧ n ≤ 9223372036854775807 := by
  have h' : (decide (IntKind.i64.min ≤ n) && decide (n ≤ IntKind.i64.max)) = true := h
  rw [Bool.and_eq_true,decide_eq_true_iff,decide_eq_true_iff] at h'
  have e1 : IntKind.i64.min = -9223372036854775808 := by decide
  have e2 : IntKind.i64.max = 9223372036854775807 := by decide
  omega
end Go.Proofs.Ytkoiffkonjpoiaa.Y
namespace Go.Proofs.Ytkoiffkonjpoiaa.Y
open Go.RowKit Go.Proofs.Ytkoiffkonjpoiaa.Q Go.Proofs.YtkoiffkonjpoiaaW.PrintWords
set_option linter.unusedVariables false
set_option linter.unusedSimpArgs false

def lo (l : List S40) (k : Int) : List S40 := l.filter (fun p => decide (p.f0 < k))
def hi (l : List S40) (k : Int) : List S40 := l.filter (fun p => decide (k < p.f0))
def putL (l : List S40) (k v : Int) : List S40 := lo l k ++ ⟨k,v⟩ :: hi l k
def cutL (l : List S40) (k : Int) : List S40 := lo l k ++ hi l k
theorem mem_lo {l : List S40} {k : Int} {p : S40} (h : p ∈ lo l k) : p ∈ l ∧ p.f0 < k := by simpa [lo] using h
theorem mem_hi {l : List S40} {k : Int} {p : S40} (h : p ∈ hi l k) : p ∈ l ∧ k < p.f0 := by simpa [hi] using h
theorem srt_tail {p : S40} {l : List S40} (h : srt (p :: l)) : srt l := (List.pairwise_cons.1 h).2
theorem srt_head {p : S40} {l : List S40} (h : srt (p :: l)) : ∀ q ∈ l,p.f0 < q.f0 := (List.pairwise_cons.1 h).1
theorem hi_all {l : List S40} {k : Int} (h : ∀ q ∈ l,k < q.f0) : hi l k = l := by
  unfold hi;rw [List.filter_eq_self];intro q hq;simpa using h q hq
theorem lo_none {l : List S40} {k : Int} (h : ∀ q ∈ l,k ≤ q.f0) : lo l k = [] := by
  unfold lo;rw [List.filter_eq_nil_iff];intro q hq;have := h q hq;simp;omega
theorem srt_put {l : List S40} (h : srt l) (k v : Int) : srt (putL l k v) := by
  unfold putL srt
  rw [List.pairwise_append]
  refine ⟨h.sublist List.filter_sublist,?_,?_⟩
  · rw [List.pairwise_cons]
    exact ⟨fun q hq => (mem_hi hq).2,h.sublist List.filter_sublist⟩
  · intro p hp q hq
    have h1 := (mem_lo hp).2
    rcases List.mem_cons.1 hq with rfl | hq
    · exact h1
    · have h2 := (mem_hi hq).2
      omega
theorem srt_cut {l : List S40} (h : srt l) (k : Int) : srt (cutL l k) := by
  unfold cutL srt
  rw [List.pairwise_append]
  refine ⟨h.sublist List.filter_sublist,h.sublist List.filter_sublist,?_⟩
  intro p hp q hq
  have h1 := (mem_lo hp).2
  have h2 := (mem_hi hq).2
  omega
/-- A list whose keys rise, seen from a key. -/
theorem view {l : List S40} (hs : srt l) (k : Int) : kcnt l k = (lo l k).length ∧ ((khas l k = true ∧ ∃ v,l = lo l k ++ ⟨k,v⟩ :: hi l k) ∨ (khas l k = false ∧ l = lo l k ++ hi l k)) := by
  refine ⟨by unfold kcnt lo;rw [List.countP_eq_length_filter],?_⟩
  induction l with
  | nil => exact .inr ⟨rfl,rfl⟩
  | cons p l ih =>
    have hh := srt_head hs
    rcases Int.lt_trichotomy p.f0 k with h1 | h1 | h1
    · have e1 : lo (p :: l) k = p :: lo l k := by unfold lo;rw [List.filter_cons_of_pos (by simpa using h1)]
      have e2 : hi (p :: l) k = hi l k := by unfold hi;rw [List.filter_cons_of_neg (by simp;omega)]
      have e3 : khas (p :: l) k = khas l k := by
        unfold khas
        rw [List.any_cons,decide_eq_false (by omega),Bool.false_or]
      rw [e1,e2,e3]
      rcases ih (srt_tail hs) with ⟨ha,v,hv⟩ | ⟨ha,hv⟩
      · exact .inl ⟨ha,v,by rw [List.cons_append,← hv]⟩
      · exact .inr ⟨ha,by rw [List.cons_append,← hv]⟩
    · have e1 : lo (p :: l) k = [] := lo_none (fun q hq => by rcases List.mem_cons.1 hq with rfl | hq;omega;have := hh q hq;omega)
      have e2 : hi (p :: l) k = l := by
        unfold hi
        rw [List.filter_cons_of_neg (by simp;omega)]
        exact hi_all (fun q hq => by have := hh q hq;omega)
      rw [e1,e2]
      refine .inl ⟨by unfold khas;rw [List.any_cons,decide_eq_true h1,Bool.true_or],p.f1,?_⟩
      rw [List.nil_append,← h1]
    · have e1 : lo (p :: l) k = [] := lo_none (fun q hq => by rcases List.mem_cons.1 hq with rfl | hq;omega;have := hh q hq;omega)
      have e2 : hi (p :: l) k = p :: l := hi_all (fun q hq => by rcases List.mem_cons.1 hq with rfl | hq;omega;have := hh q hq;omega)
      rw [e1,e2]
      refine .inr ⟨?_,rfl⟩
      rw [Bool.eq_false_iff]
      intro hc
      unfold khas at hc
      rw [List.any_eq_true] at hc
      obtain ⟨q,hq,he⟩ := hc
      have he : q.f0 = k := by simpa using he
      rcases List.mem_cons.1 hq with rfl | hq
      · omega
      · have := hh q hq;omega

theorem Put_l0_done (a v : Int) : ∀ (rest pre acc : List S40) (k : Nat),2 * rest.length < k → (pre ++ rest).length < 1000000 → acc.length + rest.length < 2000000 →
    boscagelaw02_Put.l0 k a v acc true (pre ++ rest) ((pre ++ rest).length : Int) (pre.length : Int) = some (acc ++ rest.filter (fun p => decide (p.f0 ≠ a)))
  | [],pre,acc,k,hk,hn,ha => by
    obtain ⟨k,rfl⟩ : ∃ m,k = m + 1 := ⟨k - 1,by omega⟩
    simp only [boscagelaw02_Put.l0]
    rw [if_neg (by simp),if_pos trivial]
    simp
  | p :: rest,pre,acc,k,hk,hn,ha => by
    obtain ⟨k,rfl⟩ : ∃ m,k = m + 2 := ⟨k - 2,by simp at hk;omega⟩
    simp only [List.length_append,List.length_cons] at hk hn ha
    have ih := fun acc' h => Put_l0_done a v rest (pre ++ [p]) acc' k (by omega) (by simp;omega) h
    simp only [boscagelaw02_Put.l0]
    rw [if_pos (by simp;omega),if_pos (by omega),if_pos (by simp;omega),if_pos trivial,rd_mid]
    simp only [boscagelaw02_Put.j1]
    rw [if_neg (by simp),wrap_succ _ (by omega)]
    have e1 : ((pre.length + 1 : Nat) : Int) = ((pre ++ [p]).length : Int) := by simp
    have e2 : pre ++ p :: rest = (pre ++ [p]) ++ rest := by simp
    rw [e1,e2]
    by_cases h : p.f0 = a
    · rw [if_pos h,ih acc (by omega),List.filter_cons_of_neg (by simpa using h)]
    · rw [if_neg h,if_pos (by omega),ih _ (by simp;omega),List.filter_cons_of_pos (by simpa using h),eta40]
      simp
theorem Put_l0 (a v : Int) : ∀ (rest pre acc : List S40) (k : Nat),srt rest → 2 * rest.length < k → (pre ++ rest).length < 1000000 → acc.length + rest.length < 1000000 →
    boscagelaw02_Put.l0 k a v acc false (pre ++ rest) ((pre ++ rest).length : Int) (pre.length : Int) = some (acc ++ putL rest a v)
  | [],pre,acc,k,hs,hk,hn,ha => by
    obtain ⟨k,rfl⟩ : ∃ m,k = m + 1 := ⟨k - 1,by omega⟩
    simp only [boscagelaw02_Put.l0]
    rw [if_neg (by simp),if_neg (by simp),if_pos (by simp at ha;omega)]
    rfl
  | p :: rest,pre,acc,k,hs,hk,hn,ha => by
    obtain ⟨k,rfl⟩ : ∃ m,k = m + 2 := ⟨k - 2,by simp at hk;omega⟩
    simp only [List.length_append,List.length_cons] at hk hn ha
    have hh := srt_head hs
    have ih := fun acc' h => Put_l0 a v rest (pre ++ [p]) acc' k (srt_tail hs) (by omega) (by simp;omega) h
    have idn := fun acc' h => Put_l0_done a v rest (pre ++ [p]) acc' k (by omega) (by simp;omega) h
    simp only [boscagelaw02_Put.l0]
    rw [if_pos (by simp;omega),if_pos (by omega),if_pos (by simp;omega),if_neg (by simp),rd_mid]
    simp only [boscagelaw02_Put.j1]
    rw [wrap_succ _ (by omega)]
    have e1 : ((pre.length + 1 : Nat) : Int) = ((pre ++ [p]).length : Int) := by simp
    have e2 : pre ++ p :: rest = (pre ++ [p]) ++ rest := by simp
    rw [e1,e2]
    by_cases h : p.f0 ≥ a
    · rw [if_pos (by simpa using h),if_pos (by omega)]
      simp only [Option.bind_some]
      have ef : rest.filter (fun q => decide (q.f0 ≠ a)) = hi rest a := by
        rw [List.filter_eq_self.2 (fun q hq => by have := hh q hq;simp;omega)]
        exact (hi_all (fun q hq => by have := hh q hq;omega)).symm
      have el : lo (p :: rest) a = [] := lo_none (fun q hq => by rcases List.mem_cons.1 hq with rfl | hq;omega;have := hh q hq;omega)
      by_cases he : p.f0 = a
      · have eh : hi (p :: rest) a = hi rest a := by unfold hi;rw [List.filter_cons_of_neg (by simp;omega)]
        rw [if_pos he,idn _ (by simp;omega),ef]
        unfold putL
        rw [el,eh]
        simp
      · have eh : hi (p :: rest) a = p :: hi rest a := by unfold hi;rw [List.filter_cons_of_pos (by simp;omega)]
        rw [if_neg he,if_pos (by simp;omega),idn _ (by simp;omega),ef,eta40]
        unfold putL
        rw [el,eh]
        simp
    · have el : lo (p :: rest) a = p :: lo rest a := by unfold lo;rw [List.filter_cons_of_pos (by simp;omega)]
      have eh : hi (p :: rest) a = hi rest a := by unfold hi;rw [List.filter_cons_of_neg (by simp;omega)]
      rw [if_neg (by simpa using h),if_neg (by omega),if_pos (by omega),ih _ (by simp;omega),eta40]
      unfold putL
      rw [el,eh]
      simp
theorem Put_f {l : List S40} (hs : srt l) (a v : Int) (k : Nat) (hl : l.length < 1000) (hk : 2000 ≤ k) : boscagelaw02_Put.f k l a v = some (putL l a v) := by
  have := Put_l0 a v l [] [] k hs (by omega) (by simp;omega) (by simp;omega)
  simpa [boscagelaw02_Put.f] using this
theorem putL_length {l : List S40} (hs : srt l) (a v : Int) : (putL l a v).length ≤ l.length + 1 := by
  have h1 : (lo l a).length + (hi l a).length ≤ l.length := by
    rcases (view hs a).2 with ⟨_,w,hv⟩ | ⟨_,hv⟩
    · have := congrArg List.length hv;simp at this;omega
    · have := congrArg List.length hv;simp at this;omega
  unfold putL
  simp
  omega

/-- The pairs of some keys, each put in with its place and 100. -/
def risingL (raw : List Int) (i : Int) (acc : List S40) : List S40 := match raw with
  | [] => acc
  | a :: r => risingL r (i + 1) (putL acc a (i + 100))
theorem srt_rising : ∀ (raw : List Int) (i : Int) (acc : List S40),srt acc → srt (risingL raw i acc)
  | [],_,_,h => h
  | a :: r,i,acc,h => srt_rising r (i + 1) _ (srt_put h a _)
theorem rising_length : ∀ (raw : List Int) (i : Int) (acc : List S40),srt acc → (risingL raw i acc).length ≤ acc.length + raw.length
  | [],_,_,_ => by simp [risingL]
  | a :: r,i,acc,h => by
    have h1 := rising_length r (i + 1) (putL acc a (i + 100)) (srt_put h a _)
    have h2 := putL_length h a (i + 100)
    simp only [risingL,List.length_cons]
    omega
theorem Rising_l0 : ∀ (rest pre : List Int) (acc : List S40) (k : Nat),srt acc → rest.length + 3000 < k → (pre ++ rest).length < 900 → acc.length + rest.length < 1000 →
    boscagelaw02_Rising.l0 k acc (pre ++ rest) ((pre ++ rest).length : Int) (pre.length : Int) = some (risingL rest (pre.length : Int) acc)
  | [],pre,acc,k,hs,hk,hn,ha => by
    obtain ⟨k,rfl⟩ : ∃ m,k = m + 1 := ⟨k - 1,by omega⟩
    simp only [boscagelaw02_Rising.l0]
    rw [if_neg (by simp)]
    rfl
  | p :: rest,pre,acc,k,hs,hk,hn,ha => by
    obtain ⟨k,rfl⟩ : ∃ m,k = m + 1 := ⟨k - 1,by omega⟩
    simp only [List.length_append,List.length_cons] at hk hn ha
    simp only [boscagelaw02_Rising.l0]
    rw [if_pos (by simp;omega),if_pos (by omega),if_pos (by simp;omega),rdi_mid,wrap_in _ (by omega) (by omega),Put_f hs _ _ k (by omega) (by omega)]
    simp only [Option.bind_some]
    rw [wrap_succ _ (by omega)]
    have e1 : ((pre.length + 1 : Nat) : Int) = ((pre ++ [p]).length : Int) := by simp
    have e2 : pre ++ p :: rest = (pre ++ [p]) ++ rest := by simp
    have := putL_length hs p ((pre.length : Int) + 100)
    rw [e1,e2,Rising_l0 rest (pre ++ [p]) _ k (srt_put hs _ _) (by omega) (by simp;omega) (by omega)]
    simp [risingL]
/-- The pairs of some keys. -/
def rise (raw : List Int) : List S40 := risingL raw 0 []
theorem srt_rise (raw : List Int) : srt (rise raw) := srt_rising raw 0 [] List.Pairwise.nil
theorem rise_length (raw : List Int) : (rise raw).length ≤ raw.length := by
  have := rising_length raw 0 [] List.Pairwise.nil
  simpa [rise] using this
theorem Rising_f (raw : List Int) (k : Nat) (hl : raw.length < 900) (hk : 5000 ≤ k) : boscagelaw02_Rising.f k raw = some (rise raw) := by
  have := Rising_l0 raw [] [] k List.Pairwise.nil (by omega) (by simpa using hl) (by simp;omega)
  simpa [boscagelaw02_Rising.f,rise] using this
end Go.Proofs.Ytkoiffkonjpoiaa.Y
namespace Go.Proofs.Ytkoiffkonjpoiaa.Y
open Go.RowKit Go.Proofs.Ytkoiffkonjpoiaa.Q Go.Proofs.YtkoiffkonjpoiaaW.PrintWords
set_option linter.unusedVariables false
set_option linter.unusedSimpArgs false

/-- Where a key is; -1: nowhere. -/
def findI (l : List S40) (k : Int) (i : Int) : Int := match l with
  | [] => -1
  | p :: r => if p.f0 = k then i else findI r k (i + 1)
theorem Find_l0 (x : Int) : ∀ (rest pre : List S40) (k : Nat),rest.length < k → (pre ++ rest).length < 1000000 →
    boscagelaw02_Find.l0 k x (pre ++ rest) ((pre ++ rest).length : Int) (pre.length : Int) = some (findI rest x (pre.length : Int))
  | [],pre,k,hk,hn => by
    obtain ⟨k,rfl⟩ : ∃ m,k = m + 1 := ⟨k - 1,by omega⟩
    simp only [boscagelaw02_Find.l0]
    rw [if_neg (by simp)]
    rfl
  | p :: rest,pre,k,hk,hn => by
    obtain ⟨k,rfl⟩ : ∃ m,k = m + 1 := ⟨k - 1,by omega⟩
    simp only [List.length_append,List.length_cons] at hk hn
    simp only [boscagelaw02_Find.l0]
    rw [if_pos (by simp;omega),if_pos (by omega),if_pos (by simp;omega),rd_mid]
    simp only [findI]
    by_cases h : p.f0 = x
    · rw [if_pos h,if_pos h]
    · rw [if_neg h,if_neg h,wrap_succ _ (by omega)]
      have e1 : ((pre.length + 1 : Nat) : Int) = ((pre ++ [p]).length : Int) := by simp
      have e2 : pre ++ p :: rest = (pre ++ [p]) ++ rest := by simp
      rw [e1,e2,Find_l0 x rest (pre ++ [p]) k (by omega) (by simp;omega)]
      simp
theorem Find_f (l : List S40) (x : Int) (k : Nat) (hl : l.length < 1000) (hk : 1000 ≤ k) : boscagelaw02_Find.f k l x = some (findI l x 0) := by
  have := Find_l0 x l [] k (by omega) (by simp;omega)
  simpa [boscagelaw02_Find.f] using this
theorem findI_app (A B : List S40) (k i : Int) (h : ∀ p ∈ A,p.f0 ≠ k) : findI (A ++ B) k i = findI B k (i + A.length) := by
  induction A generalizing i with
  | nil => simp
  | cons p A ih =>
    rw [List.cons_append]
    simp only [findI]
    rw [if_neg (h p List.mem_cons_self),ih _ (fun q hq => h q (List.mem_cons_of_mem _ hq)),List.length_cons]
    congr 1
    omega
theorem findI_none (B : List S40) (k i : Int) (h : ∀ p ∈ B,p.f0 ≠ k) : findI B k i = -1 := by
  have := findI_app B [] k i h
  rw [List.append_nil] at this
  exact this
theorem findI_srt {l : List S40} (hs : srt l) (k : Int) : findI l k 0 = if khas l k = true then (kcnt l k : Int) else -1 := by
  obtain ⟨hc,⟨hk,v,hv⟩ | ⟨hk,hv⟩⟩ := view hs k
  · rw [if_pos hk,hc,hv]
    rw [findI_app _ _ _ _ (fun p hp => by have := (mem_lo hp).2;omega)]
    simp only [findI]
    have e : lo l k ++ ⟨k,v⟩ :: hi l k = l := hv.symm
    rw [e,if_pos trivial]
    omega
  · rw [if_neg (by rw [hk];simp),hv]
    refine findI_none _ _ _ (fun p hp => ?_)
    rcases List.mem_append.1 hp with hp | hp
    · have := (mem_lo hp).2;omega
    · have := (mem_hi hp).2;omega

theorem Same_l0 : ∀ (r1 r2 p1 p2 : List S40) (k : Nat),r1.length < k → p1.length = p2.length → r1.length = r2.length → (p1 ++ r1).length < 1000000 →
    boscagelaw02_Same.l0 k (p1 ++ r1) (p2 ++ r2) ((p1 ++ r1).length : Int) (p1.length : Int) = some (decide (r1 = r2))
  | [],[],p1,p2,k,hk,hp,hr,hn => by
    obtain ⟨k,rfl⟩ : ∃ m,k = m + 1 := ⟨k - 1,by omega⟩
    simp only [boscagelaw02_Same.l0]
    rw [if_neg (by simp)]
    simp
  | [],_ :: _,_,_,_,_,_,hr,_ => by simp at hr
  | _ :: _,[],_,_,_,_,_,hr,_ => by simp at hr
  | a :: r1,b :: r2,p1,p2,k,hk,hp,hr,hn => by
    obtain ⟨k,rfl⟩ : ∃ m,k = m + 1 := ⟨k - 1,by omega⟩
    simp only [List.length_append,List.length_cons] at hk hn hr
    simp only [boscagelaw02_Same.l0]
    rw [if_pos (by simp;omega),if_pos (by omega),if_pos (by simp;omega),if_pos (by simp;omega),rd_mid,hp,rd_mid]
    by_cases h : a = b
    · subst h
      rw [if_neg (by simp),wrap_succ _ (by omega)]
      have e1 : ((p2.length + 1 : Nat) : Int) = ((p1 ++ [a]).length : Int) := by simp [hp]
      have e2 : p1 ++ a :: r1 = (p1 ++ [a]) ++ r1 := by simp
      have e3 : p2 ++ a :: r2 = (p2 ++ [a]) ++ r2 := by simp
      rw [e1,e2,e3,Same_l0 r1 r2 (p1 ++ [a]) (p2 ++ [a]) k (by omega) (by simp [hp]) (by omega) (by simp;omega)]
      simp
    · rw [if_pos]
      · simp [h]
      · have hne : a.f0 ≠ b.f0 ∨ a.f1 ≠ b.f1 := by
          rw [eq40] at h
          rcases Decidable.em (a.f0 = b.f0) with h1 | h1
          · exact .inr (fun h2 => h ⟨h1,h2⟩)
          · exact .inl h1
        rcases hne with h1 | h1 <;> simp [h1]
theorem Same_f (l o : List S40) (k : Nat) (hl : l.length < 1000) (hk : 1000 ≤ k) : boscagelaw02_Same.f k l o = some (decide (l = o)) := by
  unfold boscagelaw02_Same.f
  by_cases h : l.length = o.length
  · rw [if_pos (by omega)]
    have := Same_l0 l o [] [] k (by omega) rfl h (by simp;omega)
    simpa using this
  · rw [if_neg (by omega)]
    have : l ≠ o := fun e => h (by rw [e])
    simp [this]
theorem Equal_l0 : ∀ (r1 r2 p1 p2 : List S40) (k : Nat),r1.length < k → p1.length = p2.length → r1.length = r2.length → (p1 ++ r1).length < 1000000 →
    leaf_Pair_115.l0 k (p1 ++ r1) (p2 ++ r2) ((p1 ++ r1).length : Int) (p1.length : Int) = some (decide (r1 = r2))
  | [],[],p1,p2,k,hk,hp,hr,hn => by
    obtain ⟨k,rfl⟩ : ∃ m,k = m + 1 := ⟨k - 1,by omega⟩
    simp only [leaf_Pair_115.l0]
    rw [if_neg (by simp)]
    simp
  | [],_ :: _,_,_,_,_,_,hr,_ => by simp at hr
  | _ :: _,[],_,_,_,_,_,hr,_ => by simp at hr
  | a :: r1,b :: r2,p1,p2,k,hk,hp,hr,hn => by
    obtain ⟨k,rfl⟩ : ∃ m,k = m + 1 := ⟨k - 1,by omega⟩
    simp only [List.length_append,List.length_cons] at hk hn hr
    simp only [leaf_Pair_115.l0]
    rw [if_pos (by simp;omega),if_pos (by omega),if_pos (by simp;omega),if_pos (by simp;omega),rd_mid,hp,rd_mid]
    by_cases h : a = b
    · subst h
      rw [if_neg (by simp),wrap_succ _ (by omega)]
      have e1 : ((p2.length + 1 : Nat) : Int) = ((p1 ++ [a]).length : Int) := by simp [hp]
      have e2 : p1 ++ a :: r1 = (p1 ++ [a]) ++ r1 := by simp
      have e3 : p2 ++ a :: r2 = (p2 ++ [a]) ++ r2 := by simp
      rw [e1,e2,e3,Equal_l0 r1 r2 (p1 ++ [a]) (p2 ++ [a]) k (by omega) (by simp [hp]) (by omega) (by simp;omega)]
      simp
    · rw [if_pos]
      · simp [h]
      · have hne : a.f0 ≠ b.f0 ∨ a.f1 ≠ b.f1 := by
          rw [eq40] at h
          rcases Decidable.em (a.f0 = b.f0) with h1 | h1
          · exact .inr (fun h2 => h ⟨h1,h2⟩)
          · exact .inl h1
        rcases hne with h1 | h1 <;> simp [h1]
theorem Equal_f (l o : List S40) (k : Nat) (hl : l.length < 1000) (hk : 1000 ≤ k) : leaf_Pair_115.f k l o = some (decide (l = o)) := by
  unfold leaf_Pair_115.f
  by_cases h : l.length = o.length
  · rw [if_pos (by omega)]
    have := Equal_l0 l o [] [] k (by omega) rfl h (by simp;omega)
    simpa using this
  · rw [if_neg (by omega)]
    have : l ≠ o := fun e => h (by rw [e])
    simp [this]

theorem find_f {l : List S40} (hs : srt l) (hl : l.length < 1000) (k : Int) : leaf_Leaf_find.f l k = some ((kcnt l k : Int),khas l k) := by
  unfold leaf_Leaf_find.f;rw [if_pos ⟨hs,by omega⟩]
theorem clone_f (l : List S40) (hl : l.length < 1000000) : leaf_Pair_99.f l = some l := by
  unfold leaf_Pair_99.f;rw [if_pos (by omega)]
/-- A key's value. -/
def valL (l : List S40) (k : Int) : Int := if khas l k = true then (rd_T40 l (kcnt l k : Int)).f1 else 0
theorem Get_f {l : List S40} (hs : srt l) (hl : l.length < 1000) (k : Int) : leaf_Leaf_Get.f l k = some (valL l k,khas l k) := by
  unfold leaf_Leaf_Get.f valL
  rw [find_f hs hl]
  simp only [Option.bind_some]
  obtain ⟨hc,⟨hk,v,hv⟩ | ⟨hk,hv⟩⟩ := view hs k
  · have hlt : kcnt l k < l.length := by
      have := congrArg List.length hv;simp at this;omega
    rw [hk]
    simp only [if_true]
    rw [if_pos (by omega),if_pos (by omega)]
  · rw [hk];simp
theorem put_same {l : List S40} (hs : srt l) (k v : Int) (w : Int) (hv : l = lo l k ++ ⟨k,w⟩ :: hi l k) : l.set (kcnt l k) ⟨k,v⟩ = putL l k v := by
  have hc := (view hs k).1
  rw [hc]
  unfold putL
  conv => lhs;rw [hv]
  have e : (lo (lo l k ++ ⟨k,w⟩ :: hi l k) k) = lo l k := by rw [← hv]
  rw [e]
  simp
theorem LPut_f {l : List S40} (hs : srt l) (hl : l.length < 1000) (k v : Int) : leaf_Leaf_Put.f l k v = some (putL l k v,valL l k,khas l k) := by
  unfold leaf_Leaf_Put.f valL
  rw [find_f hs hl,clone_f l (by omega)]
  simp only [Option.bind_some]
  obtain ⟨hc,⟨hk,w,hv⟩ | ⟨hk,hv⟩⟩ := view hs k
  · have hlt : kcnt l k < l.length := by
      have := congrArg List.length hv;simp at this;omega
    rw [hk]
    simp only [if_true]
    rw [if_pos (by omega),if_pos (by omega),if_pos (by omega)]
    have e : rd_T40 l (kcnt l k : Int) = ⟨k,w⟩ := by
      rw [hc];conv => lhs;arg 1;rw [hv]
      exact rd_mid _ _ _
    rw [e,Int.toNat_natCast,put_same hs k v w hv]
  · rw [hk]
    rw [if_neg (by simp)]
    unfold leaf_Pair_109.f
    have hle := kcnt_le l k
    rw [if_pos ⟨by omega,by omega,by simp;omega⟩]
    simp only [Option.bind_some,Int.toNat_natCast]
    have e1 : l.take (kcnt l k) = lo l k := by
      rw [hc];conv => lhs;rw [hv]
      have e : (lo (lo l k ++ hi l k) k) = lo l k := by rw [← hv]
      rw [e]
      exact List.take_left
    have e2 : l.drop (kcnt l k) = hi l k := by
      rw [hc];conv => lhs;rw [hv]
      have e : (lo (lo l k ++ hi l k) k) = lo l k := by rw [← hv]
      rw [e]
      exact List.drop_left
    rw [e1,e2]
    simp [putL]
theorem LCut_f {l : List S40} (hs : srt l) (hl : l.length < 1000) (k : Int) : leaf_Leaf_Cut.f l k = some (cutL l k,valL l k,khas l k) := by
  unfold leaf_Leaf_Cut.f valL
  rw [find_f hs hl,clone_f l (by omega)]
  simp only [Option.bind_some]
  obtain ⟨hc,⟨hk,w,hv⟩ | ⟨hk,hv⟩⟩ := view hs k
  · have hlt : kcnt l k < l.length := by
      have := congrArg List.length hv;simp at this;omega
    rw [hk]
    simp only [if_true]
    rw [wrap_succ _ (by omega)]
    unfold leaf_Pair_108.f
    rw [if_pos ⟨by omega,by omega,by omega⟩]
    simp only [Option.bind_some,Int.toNat_natCast]
    rw [if_pos (by omega),if_pos (by omega)]
    have e1 : l.take (kcnt l k) = lo l k := by
      rw [hc];conv => lhs;rw [hv]
      have e : (lo (lo l k ++ ⟨k,w⟩ :: hi l k) k) = lo l k := by rw [← hv]
      rw [e]
      exact List.take_left
    have e2 : l.drop (kcnt l k + 1) = hi l k := by
      rw [hc];conv => lhs;rw [hv]
      have e : (lo (lo l k ++ ⟨k,w⟩ :: hi l k) k) = lo l k := by rw [← hv]
      rw [e,← List.drop_drop,List.drop_left]
      rfl
    rw [e1,e2]
    rfl
  · rw [hk]
    rw [if_neg (by simp)]
    have e : cutL l k = l := hv.symm
    rw [e]
    simp
theorem Cut_l0 (a : Int) : ∀ (rest pre acc : List S40) (k : Nat),rest.length < k → (pre ++ rest).length < 1000000 → acc.length + rest.length < 1000000 →
    boscagelaw02_Cut.l0 k a acc (pre ++ rest) ((pre ++ rest).length : Int) (pre.length : Int) = some (acc ++ rest.filter (fun p => decide (p.f0 ≠ a)))
  | [],pre,acc,k,hk,hn,ha => by
    obtain ⟨k,rfl⟩ : ∃ m,k = m + 1 := ⟨k - 1,by omega⟩
    simp only [boscagelaw02_Cut.l0]
    rw [if_neg (by simp)]
    simp
  | p :: rest,pre,acc,k,hk,hn,ha => by
    obtain ⟨k,rfl⟩ : ∃ m,k = m + 1 := ⟨k - 1,by omega⟩
    simp only [List.length_append,List.length_cons] at hk hn ha
    have ih := fun acc' h => Cut_l0 a rest (pre ++ [p]) acc' k (by omega) (by simp;omega) h
    simp only [boscagelaw02_Cut.l0]
    rw [if_pos (by simp;omega),if_pos (by omega),if_pos (by simp;omega),rd_mid,wrap_succ _ (by omega)]
    have e1 : ((pre.length + 1 : Nat) : Int) = ((pre ++ [p]).length : Int) := by simp
    have e2 : pre ++ p :: rest = (pre ++ [p]) ++ rest := by simp
    rw [e1,e2]
    by_cases h : p.f0 = a
    · rw [if_pos h,ih acc (by omega),List.filter_cons_of_neg (by simpa using h)]
    · rw [if_neg h,if_pos (by omega),ih _ (by simp;omega),List.filter_cons_of_pos (by simpa using h),eta40]
      simp
theorem filter_ne {l : List S40} (hs : srt l) (k : Int) : l.filter (fun p => decide (p.f0 ≠ k)) = cutL l k := by
  unfold cutL
  have h1 : (lo l k).filter (fun p => decide (p.f0 ≠ k)) = lo l k := List.filter_eq_self.2 (fun q hq => by have := (mem_lo hq).2;simp;omega)
  have h2 : (hi l k).filter (fun p => decide (p.f0 ≠ k)) = hi l k := List.filter_eq_self.2 (fun q hq => by have := (mem_hi hq).2;simp;omega)
  obtain ⟨hc,⟨hk,v,hv⟩ | ⟨hk,hv⟩⟩ := view hs k
  · conv => lhs;rw [hv]
    rw [List.filter_append,List.filter_cons_of_neg (by simp),h1,h2]
  · conv => lhs;rw [hv]
    rw [List.filter_append,h1,h2]
theorem Cut_f {l : List S40} (hs : srt l) (a : Int) (k : Nat) (hl : l.length < 1000) (hk : 1000 ≤ k) : boscagelaw02_Cut.f k l a = some (cutL l a) := by
  have := Cut_l0 a l [] [] k (by omega) (by simp;omega) (by simp;omega)
  rw [filter_ne hs] at this
  simpa [boscagelaw02_Cut.f] using this

end Go.Proofs.Ytkoiffkonjpoiaa.Y
namespace Go.Proofs.Ytkoiffkonjpoiaa.Y
open Go.RowKit Go.Proofs.Ytkoiffkonjpoiaa.Q Go.Proofs.YtkoiffkonjpoiaaW.PrintWords
set_option linter.unusedVariables false
set_option linter.unusedSimpArgs false

theorem Between_l0 (x y : Int) : ∀ (rest pre acc : List S40) (k : Nat),rest.length < k → (pre ++ rest).length < 1000000 → acc.length + rest.length < 1000000 →
    boscagelaw02_Between.l0 k x y acc (pre ++ rest) ((pre ++ rest).length : Int) (pre.length : Int) = some (acc ++ rest.filter (fun p => decide (x ≤ p.f0 ∧ p.f0 ≤ y)))
  | [],pre,acc,k,hk,hn,ha => by
    obtain ⟨k,rfl⟩ : ∃ m,k = m + 1 := ⟨k - 1,by omega⟩
    simp only [boscagelaw02_Between.l0]
    rw [if_neg (by simp)]
    simp
  | p :: rest,pre,acc,k,hk,hn,ha => by
    obtain ⟨k,rfl⟩ : ∃ m,k = m + 1 := ⟨k - 1,by omega⟩
    simp only [List.length_append,List.length_cons] at hk hn ha
    simp only [boscagelaw02_Between.l0]
    have e1 : ((pre.length + 1 : Nat) : Int) = ((pre ++ [p]).length : Int) := by simp
    have e2 : pre ++ p :: rest = (pre ++ [p]) ++ rest := by simp
    rw [if_pos (by simp;omega),if_pos (by omega),if_pos (by simp;omega),rd_mid,wrap_succ _ (by omega),e1,e2]
    by_cases h1 : x ≤ p.f0
    · by_cases h2 : p.f0 ≤ y
      · rw [if_pos h1,if_pos h2,if_pos (by omega),Between_l0 x y rest (pre ++ [p]) _ k (by omega) (by simp;omega) (by simp;omega),List.filter_cons_of_pos (by simp [h1,h2])]
        simp
      · rw [if_pos h1,if_neg h2,Between_l0 x y rest (pre ++ [p]) _ k (by omega) (by simp;omega) (by omega),List.filter_cons_of_neg (by simp;omega)]
    · rw [if_neg h1,Between_l0 x y rest (pre ++ [p]) _ k (by omega) (by simp;omega) (by omega),List.filter_cons_of_neg (by simp;omega)]
theorem Between_f (l : List S40) (x y : Int) (k : Nat) (hl : l.length < 1000) (hk : 1000 ≤ k) : boscagelaw02_Between.f k l x y = some (l.filter (fun p => decide (x ≤ p.f0 ∧ p.f0 ≤ y))) := by
  have := Between_l0 x y l [] [] k (by omega) (by simp;omega) (by simp;omega)
  simpa [boscagelaw02_Between.f] using this
theorem LBetween_eq : ∀ k,leaf_Leaf_Between.l0 k = boscagelaw02_Between.l0 k
  | 0 => by funext a b c d e f;simp only [leaf_Leaf_Between.l0,boscagelaw02_Between.l0]
  | k + 1 => by funext a b c d e f;simp only [leaf_Leaf_Between.l0,boscagelaw02_Between.l0,LBetween_eq k,ge_iff_le]
theorem LBetween_f (l : List S40) (x y : Int) (k : Nat) (hl : l.length < 1000) (hk : 1000 ≤ k) : leaf_Leaf_Between.f k l x y = some (l.filter (fun p => decide (x ≤ p.f0 ∧ p.f0 ≤ y))) := by
  rw [← Between_f l x y k hl hk]
  unfold leaf_Leaf_Between.f boscagelaw02_Between.f
  rw [LBetween_eq]
end Go.Proofs.Ytkoiffkonjpoiaa.Y
namespace Go.Proofs.Ytkoiffkonjpoiaa.Y
open Go.RowKit Go.Proofs.Ytkoiffkonjpoiaa.Q Go.Proofs.YtkoiffkonjpoiaaW.PrintWords Go.Proofs.YtkoiffkonjpoiaaW.PrintLast Go.Proofs.YtkoiffkonjpoiaaW.PrintMore
set_option linter.unusedVariables false
theorem mem_putL {l : List S40} {k v : Int} {p : S40} (h : p ∈ putL l k v) : p ∈ l ∨ p = ⟨k,v⟩ := by
  unfold putL at h
  rcases List.mem_append.1 h with h | h
  · exact .inl (mem_lo h).1
  · rcases List.mem_cons.1 h with h | h
    · exact .inr h
    · exact .inl (mem_hi h).1
theorem oneR_left (A B : List S40) (i : Int) (h : i < (A.length : Int)) : oneR (A ++ B) i = oneR A i := by
  unfold oneR
  by_cases h0 : 0 ≤ i
  · rw [if_pos h0,if_pos h0,List.getElem?_append_left (by omega)]
  · rw [if_neg h0,if_neg h0]
theorem oneR_right (A B : List S40) (i : Int) (h : i = (A.length : Int)) : oneR (A ++ B) i = oneR B 0 := by
  unfold oneR
  rw [if_pos (by omega),if_pos (by omega),List.getElem?_append_right (by omega)]
  have : i.toNat - A.length = (0 : Int).toNat := by omega
  rw [this]
theorem span_app (k : Nat) (L : List S40) (a b c d x y : Int) (h : model_Op_Span.f k a b c d = some (x,y,true)) (hl : L.length < 1000) (hk : 1000 ≤ k) :
    model_Apply.f k L a b c d = some (L,(ofR a b (L.filter (fun p => decide (x ≤ p.f0 ∧ p.f0 ≤ y)))).1,(ofR a b (L.filter (fun p => decide (x ≤ p.f0 ∧ p.f0 ≤ y)))).2.1,(ofR a b (L.filter (fun p => decide (x ≤ p.f0 ∧ p.f0 ≤ y)))).2.2.1,(ofR a b (L.filter (fun p => decide (x ≤ p.f0 ∧ p.f0 ≤ y)))).2.2.2.1,(ofR a b (L.filter (fun p => decide (x ≤ p.f0 ∧ p.f0 ≤ y)))).2.2.2.2.1,(ofR a b (L.filter (fun p => decide (x ≤ p.f0 ∧ p.f0 ≤ y)))).2.2.2.2.2) := by
  have hf := List.length_filter_le (fun p : S40 => decide (x ≤ p.f0 ∧ p.f0 ≤ y)) L
  unfold model_Apply.f
  rw [h,Option.bind_some]
  dsimp only
  rw [if_pos rfl,clone_f _ (by omega),Option.bind_some,LBetween_f _ _ _ _ hl hk,Option.bind_some]
  unfold model_Op_Of.f
  rw [if_pos (by omega),Option.bind_some]
theorem filter_all {L : List S40} {f : S40 → Bool} (h : ∀ p ∈ L,f p = true) : L.filter f = L := List.filter_eq_self.2 h
theorem filter_nil {L : List S40} {f : S40 → Bool} (h : ∀ p ∈ L,f p = false) : L.filter f = [] := List.filter_eq_nil_iff.2 (fun p hp => by rw [h p hp];simp)
theorem fl_le {L : List S40} (b : Int) (hw : ∀ p ∈ L,-9223372036854775808 ≤ p.f0) :
    L.filter (fun p => decide (-9223372036854775808 ≤ p.f0 ∧ p.f0 ≤ b)) = L.filter (fun p => decide (p.f0 ≤ b)) := by
  refine List.filter_congr (fun p hp => ?_)
  have := hw p hp
  exact decide_eq_decide.2 ⟨fun h => h.2,fun h => ⟨this,h⟩⟩
theorem fl_ge {L : List S40} (b : Int) (hw : ∀ p ∈ L,p.f0 ≤ 9223372036854775807) :
    L.filter (fun p => decide (b ≤ p.f0 ∧ p.f0 ≤ 9223372036854775807)) = L.filter (fun p => decide (b ≤ p.f0)) := by
  refine List.filter_congr (fun p hp => ?_)
  have := hw p hp
  exact decide_eq_decide.2 ⟨fun h => h.1,fun h => ⟨h,this⟩⟩
theorem le_has {L : List S40} {b v : Int} (hv : L = lo L b ++ ⟨b,v⟩ :: hi L b) : L.filter (fun p => decide (p.f0 ≤ b)) = lo L b ++ [⟨b,v⟩] := by
  conv => lhs;rw [hv]
  rw [List.filter_append,filter_all (fun p hp => decide_eq_true (by have := (mem_lo hp).2;omega)),List.filter_cons_of_pos (by simp),filter_nil (L := hi L b) (fun p hp => decide_eq_false (by have := (mem_hi hp).2;omega))]
theorem le_not {L : List S40} {b : Int} (hv : L = lo L b ++ hi L b) : L.filter (fun p => decide (p.f0 ≤ b)) = lo L b := by
  conv => lhs;rw [hv]
  rw [List.filter_append,filter_all (fun p hp => decide_eq_true (by have := (mem_lo hp).2;omega)),filter_nil (L := hi L b) (fun p hp => decide_eq_false (by have := (mem_hi hp).2;omega)),List.append_nil]
theorem ge_has {L : List S40} {b v : Int} (hv : L = lo L b ++ ⟨b,v⟩ :: hi L b) : L.filter (fun p => decide (b ≤ p.f0)) = ⟨b,v⟩ :: hi L b := by
  conv => lhs;rw [hv]
  rw [List.filter_append,filter_nil (L := lo L b) (fun p hp => decide_eq_false (by have := (mem_lo hp).2;omega)),List.filter_cons_of_pos (by simp),filter_all (L := hi L b) (fun p hp => decide_eq_true (by have := (mem_hi hp).2;omega)),List.nil_append]
theorem ge_not {L : List S40} {b : Int} (hv : L = lo L b ++ hi L b) : L.filter (fun p => decide (b ≤ p.f0)) = hi L b := by
  conv => lhs;rw [hv]
  rw [List.filter_append,filter_nil (L := lo L b) (fun p hp => decide_eq_false (by have := (mem_lo hp).2;omega)),filter_all (L := hi L b) (fun p hp => decide_eq_true (by have := (mem_hi hp).2;omega)),List.nil_append]
theorem one_floor {L A H : List S40} {q : S40} (hv : L = A ++ q :: H) : oneR (A ++ [q]) (((A ++ [q]).length : Int) - 1) = oneR L (A.length : Int) := by
  subst hv
  have e1 : (((A ++ [q]).length : Int) - 1) = (A.length : Int) := by simp
  have e2 : A ++ q :: H = (A ++ [q]) ++ H := by simp
  rw [e1,e2]
  exact (oneR_left (A ++ [q]) H _ (by simp;omega)).symm
theorem one_floor2 {L A H : List S40} (hv : L = A ++ H) : oneR A ((A.length : Int) - 1) = oneR L ((A.length : Int) - 1) := by
  subst hv
  rw [oneR_left _ _ _ (by omega)]
theorem one_ceil {L A H : List S40} (hv : L = A ++ H) : oneR H 0 = oneR L (A.length : Int) := by
  subst hv
  exact (oneR_right A H _ rfl).symm
end Go.Proofs.Ytkoiffkonjpoiaa.Y
namespace Go.Proofs.Ytkoiffkonjpoiaa.Y
open Go.RowKit Go.Proofs.Ytkoiffkonjpoiaa.Q Go.Proofs.YtkoiffkonjpoiaaW.PrintWords Go.Proofs.YtkoiffkonjpoiaaW.PrintLast
theorem below_l0 (x : Int) : ∀ (rest pre : List S40) (acc : Nat) (k : Nat),rest.length < k → (pre ++ rest).length < 1000000 → acc + rest.length < 1000000 →
    boscagelaw18_below.l0 k x (acc : Int) (pre ++ rest) ((pre ++ rest).length : Int) (pre.length : Int) = some ((acc + (lo rest x).length : Nat) : Int)
  | [],pre,acc,k,hk,hn,ha => by
    obtain ⟨k,rfl⟩ : ∃ m,k = m + 1 := ⟨k - 1,by omega⟩
    simp only [boscagelaw18_below.l0]
    rw [if_neg (by simp)]
    simp [lo]
  | p :: rest,pre,acc,k,hk,hn,ha => by
    obtain ⟨k,rfl⟩ : ∃ m,k = m + 1 := ⟨k - 1,by omega⟩
    simp only [List.length_append,List.length_cons] at hk hn ha
    simp only [boscagelaw18_below.l0]
    have e1 : ((pre.length + 1 : Nat) : Int) = ((pre ++ [p]).length : Int) := by simp
    have e2 : pre ++ p :: rest = (pre ++ [p]) ++ rest := by simp
    rw [if_pos (by simp;omega),if_pos (by omega),if_pos (by simp;omega),rd_mid,wrap_succ acc (by omega),wrap_succ pre.length (by omega),e1,e2]
    by_cases h : p.f0 < x
    · rw [if_pos h,below_l0 x rest (pre ++ [p]) (acc + 1) k (by omega) (by simp;omega) (by omega)]
      congr 2
      unfold lo
      rw [List.filter_cons_of_pos (by simp [h]),List.length_cons]
      omega
    · rw [if_neg h,below_l0 x rest (pre ++ [p]) acc k (by omega) (by simp;omega) (by omega)]
      congr 2
      unfold lo
      rw [List.filter_cons_of_neg (by simp [h])]
theorem below_f (l : List S40) (x : Int) (k : Nat) (hl : l.length < 1000) (hk : 1000 ≤ k) : boscagelaw18_below.f k l x = some ((lo l x).length : Int) := by
  have := below_l0 x l [] 0 k (by omega) (by simp;omega) (by omega)
  simpa [boscagelaw18_below.f] using this
theorem pick_f (l : List S40) (i : Int) : boscagelaw18_pick.f l i = some (0,(oneR l i).1,(oneR l i).2.1,(oneR l i).2.2,[],false) := by
  unfold boscagelaw18_pick.f oneR
  by_cases h0 : i < 0
  · rw [if_pos h0];simp [show ¬ (0 ≤ i) by omega]
  · by_cases h1 : i ≥ (l.length : Int)
    · rw [if_neg h0,if_pos h1,if_pos (by omega),List.getElem?_eq_none (by omega)]
    · have hi : i.toNat < l.length := by omega
      rw [if_neg h0,if_neg h1,if_pos (by omega),if_pos (by omega),if_pos (by omega),List.getElem?_eq_getElem hi]
      have e : rd_T40 l i = l[i.toNat] := by simp [rd_T40,hi]
      rw [e]
theorem law_app (k : Nat) {L : List S40} (hs : srt L) (a b c d : Int) (hl : L.length < 1000) (hk : 1000 ≤ k) :
    boscagelaw18_Apply.f k L a b c d = boscagelaw18_Apply.j0 k L (if khas L b = true then (kcnt L b : Int) else -1) a b c d 0 (khas L b) 0 (valL L b) false := by
  unfold boscagelaw18_Apply.f
  rw [Find_f _ _ _ hl hk,Option.bind_some,findI_srt hs]
  obtain ⟨hc,⟨hk2,v,hv⟩ | ⟨hk2,hv⟩⟩ := view hs b
  · have hlt : kcnt L b < L.length := by rw [hc];conv => rhs;rw [hv]
                                         simp
    rw [hk2,if_pos rfl,if_pos (by omega),if_pos (by omega),if_pos (by omega)]
    unfold valL
    rw [hk2,if_pos rfl]
  · rw [hk2]
    simp only [Bool.false_eq_true,if_false]
    rw [if_neg (by omega)]
    unfold valL
    rw [hk2]
    simp only [Bool.false_eq_true,if_false]
theorem lo_le (L : List S40) (b : Int) : (lo L b).length ≤ L.length := List.length_filter_le _ _
theorem cut_len {L : List S40} (hs : srt L) (b : Int) : (cutL L b).length ≤ L.length := by
  obtain ⟨hc,⟨hh,v,hv⟩ | ⟨hh,hv⟩⟩ := view hs b
  · have h := congrArg List.length hv
    simp only [List.length_append,List.length_cons] at h
    unfold cutL
    rw [List.length_append]
    omega
  · have h := congrArg List.length hv
    simp only [List.length_append] at h
    unfold cutL
    rw [List.length_append]
    omega
/-- Both maps do alike: the same pairs, the same answer; the pairs rise again. -/
def MCR (m : Nat) (L : List S40) (a b c d : Int) : Prop := ∃ (l' : List S40) (r1 : Int) (r2 : Bool) (r3 r4 : Int) (q : List S40) (t : Bool),model_Apply.f m L a b c d = some (l',r1,r2,r3,r4,q,false) ∧ boscagelaw18_Apply.f m L a b c d = some (l',r1,r2,r3,r4,q,t) ∧ srt l' ∧ (∀ p ∈ l',X.wf p.f0) ∧ l'.length ≤ L.length + 1 ∧ q.length ≤ L.length ∧ (l' = L ∨ l' = putL L b d ∨ l' = cutL L b)
/-- The same, and what error there may be. -/
def MCE (m : Nat) (L : List S40) (a b c d : Int) : Prop := ∃ (l' : List S40) (r1 : Int) (r2 : Bool) (r3 r4 : Int) (q : List S40) (t : Bool),model_Apply.f m L a b c d = some (l',r1,r2,r3,r4,q,false) ∧ boscagelaw18_Apply.f m L a b c d = some (l',r1,r2,r3,r4,q,t) ∧ srt l' ∧ (∀ p ∈ l',X.wf p.f0) ∧ l'.length ≤ L.length + 1 ∧ q.length ≤ L.length ∧ (l' = L ∨ l' = putL L b d ∨ l' = cutL L b) ∧ (r1 = 0 ∨ r1 = 10)
theorem MC_tail (m : Nat) (L : List S40) (hs : srt L) (hw : ∀ p ∈ L,X.wf p.f0) (a b c d : Int) (hb : X.wf b) (l' : List S40) (r1 : Int) (r2 : Bool) (r3 r4 : Int) (q : List S40) (t : Bool)
    (h1 : model_Apply.f m L a b c d = some (l',r1,r2,r3,r4,q,false)) (h2 : boscagelaw18_Apply.f m L a b c d = some (l',r1,r2,r3,r4,q,t)) (hl' : l' = L ∨ l' = putL L b d ∨ l' = cutL L b) (hq : q.length ≤ L.length) (he : r1 = 0 ∨ r1 = 10 := by decide) : MCE m L a b c d := by
  refine ⟨l',r1,r2,r3,r4,q,t,h1,h2,?_,fun p hp => ?_,?_,hq,hl',he⟩
  · rcases hl' with rfl | rfl | rfl
    · exact hs
    · exact srt_put hs _ _
    · exact srt_cut hs _
  · rcases hl' with rfl | rfl | rfl
    · exact hw p hp
    · rcases mem_putL hp with h | rfl
      · exact hw p h
      · exact hb
    · unfold cutL at hp
      rcases List.mem_append.1 hp with h | h
      · exact hw p (mem_lo h).1
      · exact hw p (mem_hi h).1
  · have := putL_length hs b d
    have := cut_len hs b
    rcases hl' with rfl | rfl | rfl <;> omega
set_option maxRecDepth 4000 in
theorem MC_err (m : Nat) (L : List S40) (hs : srt L) (hl : L.length < 900) (a b c d : Int) (hm : 6000 ≤ m) (hwk : ∀ p ∈ L,X.wf p.f0) (hwb : X.wf b) : MCE (m + 1) L a b c d := by
  have hb := wf_bounds hwb
  have hlaw := fun a => law_app (m + 1) hs a b c d (by omega) (by omega)
  have hlow : ∀ p ∈ L,-9223372036854775808 ≤ p.f0 := fun p hp => (wf_bounds (hwk p hp)).1
  have hup : ∀ p ∈ L,p.f0 ≤ 9223372036854775807 := fun p hp => (wf_bounds (hwk p hp)).2
  have hlo := lo_le L b
  have hput := putL_length hs b d
  have hcut := cut_len hs b
  have hbel := below_f L b m (by omega) (by omega)
  have tail := fun a => @MC_tail (m + 1) L hs hwk a b c d hwb
  by_cases h0 : a = 0
  · subst h0
    have hsp : model_Op_Span.f (m + 1) 0 b c d = some (0,0,false) := by simp [model_Op_Span.f,model_Op_Span.j0]
    refine tail 0 L 0 (khas L b) 0 (valL L b) [] false ?_ ?_ (by first | exact .inl rfl | exact .inr (.inl rfl) | exact .inr (.inr rfl)) (by first | simp | omega)
    · unfold model_Apply.f
      rw [hsp,Option.bind_some]
      dsimp only
      rw [if_neg (by simp),if_pos rfl,Get_f hs (by omega),Option.bind_some,clone_f _ (by omega),Option.bind_some]
    · rw [hlaw 0]
      simp only [boscagelaw18_Apply.j0]
      rw [hbel,Option.bind_some,if_pos trivial]
  by_cases h1 : a = 1
  · subst h1
    have hsp : model_Op_Span.f (m + 1) 1 b c d = some (0,0,false) := by simp [model_Op_Span.f,model_Op_Span.j0]
    refine tail 1 (putL L b d) 0 (khas L b) 0 (valL L b) [] false ?_ ?_ (by first | exact .inl rfl | exact .inr (.inl rfl) | exact .inr (.inr rfl)) (by first | simp | omega)
    · unfold model_Apply.f
      rw [hsp,Option.bind_some]
      dsimp only
      rw [if_neg (by simp),if_neg (by decide),if_pos rfl,LPut_f hs (by omega),Option.bind_some]
    · rw [hlaw 1]
      simp only [boscagelaw18_Apply.j0]
      rw [hbel,Option.bind_some,if_neg (by decide),if_pos trivial,Put_f hs _ _ _ (by omega) (by omega),Option.bind_some]
  by_cases h2 : a = 2
  · subst h2
    have hsp : model_Op_Span.f (m + 1) 2 b c d = some (0,0,false) := by simp [model_Op_Span.f,model_Op_Span.j0]
    by_cases hh : khas L b = true
    · refine tail 2 L 0 true 0 (valL L b) [] false ?_ ?_ (by first | exact .inl rfl | exact .inr (.inl rfl) | exact .inr (.inr rfl)) (by first | simp | omega)
      · unfold model_Apply.f
        rw [hsp,Option.bind_some]
        dsimp only
        rw [if_neg (by simp),if_neg (by decide),if_neg (by decide),if_pos rfl,Get_f hs (by omega),Option.bind_some]
        dsimp only
        rw [if_pos hh,clone_f _ (by omega),Option.bind_some]
      · rw [hlaw 2,if_pos hh,hh]
        simp only [boscagelaw18_Apply.j0]
        rw [hbel,Option.bind_some,if_neg (by decide),if_neg (by decide),if_pos trivial,if_pos (by omega)]
    · have hf : khas L b = false := by simpa using hh
      have hv0 : valL L b = 0 := by unfold valL;rw [if_neg hh]
      refine tail 2 (putL L b d) 0 false 0 0 [] false ?_ ?_ (by first | exact .inl rfl | exact .inr (.inl rfl) | exact .inr (.inr rfl)) (by first | simp | omega)
      · unfold model_Apply.f
        rw [hsp,Option.bind_some]
        dsimp only
        rw [if_neg (by simp),if_neg (by decide),if_neg (by decide),if_pos rfl,Get_f hs (by omega),Option.bind_some]
        dsimp only
        rw [if_neg hh,LPut_f hs (by omega),Option.bind_some]
      · rw [hlaw 2,if_neg hh,hf,hv0]
        simp only [boscagelaw18_Apply.j0]
        rw [hbel,Option.bind_some,if_neg (by decide),if_neg (by decide),if_pos trivial,if_neg (by omega),Put_f hs _ _ _ (by omega) (by omega),Option.bind_some]
  by_cases h3 : a = 3
  · subst h3
    have hsp : model_Op_Span.f (m + 1) 3 b c d = some (0,0,false) := by simp [model_Op_Span.f,model_Op_Span.j0]
    refine tail 3 (cutL L b) 0 (khas L b) 0 (valL L b) [] false ?_ ?_ (by first | exact .inl rfl | exact .inr (.inl rfl) | exact .inr (.inr rfl)) (by first | simp | omega)
    · unfold model_Apply.f
      rw [hsp,Option.bind_some]
      dsimp only
      rw [if_neg (by simp),if_neg (by decide),if_neg (by decide),if_neg (by decide),if_pos rfl,LCut_f hs (by omega),Option.bind_some]
    · rw [hlaw 3]
      simp only [boscagelaw18_Apply.j0]
      rw [hbel,Option.bind_some,if_neg (by decide),if_neg (by decide),if_neg (by decide),if_pos trivial,Cut_f hs _ _ (by omega) (by omega),Option.bind_some]
  by_cases h4 : a = 4
  · subst h4
    have hsp : model_Op_Span.f (m + 1) 4 b c d = some (-9223372036854775808,b,true) := by simp [model_Op_Span.f]
    have hap := span_app (m + 1) L 4 b c d _ _ hsp (by omega) (by omega)
    rw [fl_le b hlow] at hap
    obtain ⟨hc,⟨hh,v,hv⟩ | ⟨hh,hv⟩⟩ := view hs b
    · rw [le_has hv] at hap
      have e := one_floor hv
      refine tail 4 L 0 _ _ _ [] false hap ?_ (.inl rfl) (by first | (simp;done) | omega)
      rw [hlaw 4,hh,if_pos rfl]
      simp only [boscagelaw18_Apply.j0]
      have ew : wrap64 (wrap64 (((lo L b).length : Int) + 1) - 1) = ((lo L b).length : Int) := by unfold wrap64;omega
      rw [hbel,Option.bind_some,if_neg (by decide),if_neg (by decide),if_neg (by decide),if_neg (by decide),if_pos trivial,if_pos (by omega),ew,pick_f,Option.bind_some,← e]
      rfl
    · rw [le_not hv] at hap
      have e := one_floor2 hv
      refine tail 4 L 0 _ _ _ [] false hap ?_ (.inl rfl) (by first | (simp;done) | omega)
      rw [hlaw 4,hh,if_neg (by simp)]
      simp only [boscagelaw18_Apply.j0]
      have ew : wrap64 (((lo L b).length : Int) - 1) = ((lo L b).length : Int) - 1 := by unfold wrap64;omega
      rw [hbel,Option.bind_some,if_neg (by decide),if_neg (by decide),if_neg (by decide),if_neg (by decide),if_pos trivial,if_neg (by omega),ew,pick_f,Option.bind_some,← e]
      rfl
  by_cases h5 : a = 5
  · subst h5
    have hsp : model_Op_Span.f (m + 1) 5 b c d = some (b,9223372036854775807,true) := by simp [model_Op_Span.f]
    have hap := span_app (m + 1) L 5 b c d _ _ hsp (by omega) (by omega)
    rw [fl_ge b hup] at hap
    have e : oneR (L.filter (fun p => decide (b ≤ p.f0))) 0 = oneR L ((lo L b).length : Int) := by
      obtain ⟨hc,⟨hh,v,hv⟩ | ⟨hh,hv⟩⟩ := view hs b
      · rw [ge_has hv]
        exact one_ceil hv
      · rw [ge_not hv]
        exact one_ceil hv
    refine tail 5 L 0 _ _ _ [] false hap ?_ (.inl rfl) (by first | (simp;done) | omega)
    rw [hlaw 5]
    simp only [boscagelaw18_Apply.j0]
    rw [hbel,Option.bind_some,if_neg (by decide),if_neg (by decide),if_neg (by decide),if_neg (by decide),if_neg (by decide),if_pos trivial,pick_f,Option.bind_some,← e]
    rfl
  have hall : L.filter (fun p => decide (-9223372036854775808 ≤ p.f0 ∧ p.f0 ≤ 9223372036854775807)) = L := filter_all (fun p hp => decide_eq_true ⟨hlow p hp,hup p hp⟩)
  by_cases h6 : a = 6
  · subst h6
    have hsp : model_Op_Span.f (m + 1) 6 b c d = some (-9223372036854775808,9223372036854775807,true) := by simp [model_Op_Span.f,model_Op_Span.j0]
    have hap := span_app (m + 1) L 6 b c d _ _ hsp (by omega) (by omega)
    rw [hall] at hap
    refine tail 6 L 0 _ _ _ [] false hap ?_ (.inl rfl) (by first | (simp;done) | omega)
    rw [hlaw 6]
    simp only [boscagelaw18_Apply.j0]
    rw [hbel,Option.bind_some,if_neg (by decide),if_neg (by decide),if_neg (by decide),if_neg (by decide),if_neg (by decide),if_neg (by decide),if_pos trivial,pick_f,Option.bind_some]
    rfl
  by_cases h7 : a = 7
  · subst h7
    have hsp : model_Op_Span.f (m + 1) 7 b c d = some (-9223372036854775808,9223372036854775807,true) := by simp [model_Op_Span.f,model_Op_Span.j0]
    have hap := span_app (m + 1) L 7 b c d _ _ hsp (by omega) (by omega)
    rw [hall] at hap
    refine tail 7 L 0 _ _ _ [] false hap ?_ (.inl rfl) (by first | (simp;done) | omega)
    rw [hlaw 7]
    simp only [boscagelaw18_Apply.j0]
    have ew : wrap64 ((L.length : Int) - 1) = (L.length : Int) - 1 := by unfold wrap64;omega
    rw [hbel,Option.bind_some,if_neg (by decide),if_neg (by decide),if_neg (by decide),if_neg (by decide),if_neg (by decide),if_neg (by decide),if_neg (by decide),if_pos trivial,ew,pick_f,Option.bind_some]
    rfl
  by_cases h8 : a = 8
  · subst h8
    have hfin : ∀ x y,model_Op_Span.f (m + 1) 8 b c d = some (x,y,true) → L.filter (fun p => decide (x ≤ p.f0 ∧ p.f0 ≤ y)) = lo L b → MCE (m + 1) L 8 b c d := by
      intro x y hsp hfl
      have hap := span_app (m + 1) L 8 b c d _ _ hsp (by omega) (by omega)
      rw [hfl] at hap
      refine tail 8 L 0 _ _ _ [] false hap ?_ (.inl rfl) (by first | (simp;done) | omega)
      rw [hlaw 8]
      simp only [boscagelaw18_Apply.j0]
      rw [hbel,Option.bind_some,if_neg (by decide),if_neg (by decide),if_neg (by decide),if_neg (by decide),if_neg (by decide),if_neg (by decide),if_neg (by decide),if_neg (by decide),if_pos trivial]
      rfl
    by_cases hz : b = -9223372036854775808
    · refine hfin 1 0 (by simp [model_Op_Span.f,model_Op_Span.j0,hz]) ?_
      rw [filter_nil (fun p hp => decide_eq_false (by omega))]
      exact (filter_nil (fun p hp => decide_eq_false (by have := hlow p hp;omega))).symm
    · have hw : wrap64 (b - 1) = b - 1 := by unfold wrap64;omega
      refine hfin (-9223372036854775808) (b - 1) (by simp [model_Op_Span.f,model_Op_Span.j0,hz,hw]) ?_
      refine List.filter_congr (fun p hp => decide_eq_decide.2 ?_)
      have := hlow p hp
      omega
  by_cases h9 : a = 9
  · subst h9
    have hsp : model_Op_Span.f (m + 1) 9 b c d = some (-9223372036854775808,9223372036854775807,true) := by simp [model_Op_Span.f,model_Op_Span.j0]
    have hap := span_app (m + 1) L 9 b c d _ _ hsp (by omega) (by omega)
    rw [hall] at hap
    refine tail 9 L 0 _ _ _ [] false hap ?_ (.inl rfl) (by first | (simp;done) | omega)
    rw [hlaw 9]
    simp only [boscagelaw18_Apply.j0]
    rw [hbel,Option.bind_some,if_neg (by decide),if_neg (by decide),if_neg (by decide),if_neg (by decide),if_neg (by decide),if_neg (by decide),if_neg (by decide),if_neg (by decide),if_neg (by decide),if_pos trivial]
    have ho : ∀ i : Int,(i < 0 ∨ i ≥ (L.length : Int)) → oneR L i = (false,0,0) := by
      intro i hi
      unfold oneR
      by_cases h0 : 0 ≤ i
      · rw [if_pos h0,List.getElem?_eq_none (by omega)]
      · rw [if_neg h0]
    have hof : ofR 9 b L = (0,(oneR L b).1,(oneR L b).2.1,(oneR L b).2.2,[],false) := rfl
    rw [hof]
    by_cases hz : b < 0
    · rw [if_pos hz,ho b (.inl hz)]
    · by_cases hy : b ≥ (L.length : Int)
      · rw [if_neg hz,if_pos hy,ho b (.inr hy)]
      · rw [if_neg hz,if_neg hy,pick_f,Option.bind_some]
  by_cases h10 : a = 10
  · subst h10
    have hsp : model_Op_Span.f (m + 1) 10 b c d = some (b,c,true) := by simp [model_Op_Span.f,model_Op_Span.j0]
    have hap := span_app (m + 1) L 10 b c d _ _ hsp (by omega) (by omega)
    have hf := List.length_filter_le (fun p : S40 => decide (b ≤ p.f0 ∧ p.f0 ≤ c)) L
    refine tail 10 L 0 _ _ _ [] false hap ?_ (.inl rfl) (by first | (simp;done) | omega)
    rw [hlaw 10]
    simp only [boscagelaw18_Apply.j0]
    rw [hbel,Option.bind_some,if_neg (by decide),if_neg (by decide),if_neg (by decide),if_neg (by decide),if_neg (by decide),if_neg (by decide),if_neg (by decide),if_neg (by decide),if_neg (by decide),if_neg (by decide),if_pos trivial,Between_f _ _ _ _ (by omega) (by omega),Option.bind_some]
    rfl
  by_cases h11 : a = 11
  · subst h11
    have hsp : model_Op_Span.f (m + 1) 11 b c d = some (b,c,true) := by simp [model_Op_Span.f,model_Op_Span.j0]
    have hap := span_app (m + 1) L 11 b c d _ _ hsp (by omega) (by omega)
    have hf := List.length_filter_le (fun p : S40 => decide (b ≤ p.f0 ∧ p.f0 ≤ c)) L
    refine tail 11 L 0 _ _ _ (L.filter (fun p => decide (b ≤ p.f0 ∧ p.f0 ≤ c))) false hap ?_ (.inl rfl) (by first | (simp;done) | omega)
    rw [hlaw 11]
    simp only [boscagelaw18_Apply.j0]
    rw [hbel,Option.bind_some,if_neg (by decide),if_neg (by decide),if_neg (by decide),if_neg (by decide),if_neg (by decide),if_neg (by decide),if_neg (by decide),if_neg (by decide),if_neg (by decide),if_neg (by decide),if_neg (by decide),if_pos trivial,Between_f _ _ _ _ (by omega) (by omega),Option.bind_some]
    rfl
  have hsp : model_Op_Span.f (m + 1) a b c d = some (0,0,false) := by simp [model_Op_Span.f,model_Op_Span.j0,h4,h5,h6,h7,h8,h9,h10,h11]
  refine tail a L 10 false 0 0 [] false ?_ ?_ (by first | exact .inl rfl | exact .inr (.inl rfl) | exact .inr (.inr rfl)) (by first | simp | omega)
  · unfold model_Apply.f
    rw [hsp,Option.bind_some]
    dsimp only
    rw [if_neg (by simp),if_neg h0,if_neg h1,if_neg h2,if_neg h3,clone_f _ (by omega),Option.bind_some]
  · rw [hlaw a]
    simp only [boscagelaw18_Apply.j0]
    rw [hbel,Option.bind_some,if_neg h0,if_neg h1,if_neg h2,if_neg h3,if_neg h4,if_neg h5,if_neg h6,if_neg h7,if_neg h8,if_neg h9,if_neg h10,if_neg h11]
theorem MC_cases (m : Nat) (L : List S40) (hs : srt L) (hl : L.length < 900) (a b c d : Int) (hm : 6000 ≤ m) (hwk : ∀ p ∈ L,X.wf p.f0) (hwb : X.wf b) : MCR (m + 1) L a b c d := by
  obtain ⟨l',r1,r2,r3,r4,q,t,h1,h2,h3,h4,h5,h6,h7,_⟩ := MC_err m L hs hl a b c d hm hwk hwb
  exact ⟨l',r1,r2,r3,r4,q,t,h1,h2,h3,h4,h5,h6,h7⟩
end Go.Proofs.Ytkoiffkonjpoiaa.Y
namespace Go.Proofs.Ytkoiffkonjpoiaa.Y
open Go.RowKit Go.Proofs.Ytkoiffkonjpoiaa.Q Go.Proofs.YtkoiffkonjpoiaaW.PrintWords
theorem wrap_u64 (n : Int) : IntKind.u64.wrap n = n % 18446744073709551616 := by simp [IntKind.wrap,IntKind.bits,IntKind.signed]
theorem b8_inj {n m : Int} (hn : -9223372036854775808 ≤ n ∧ n ≤ 9223372036854775807) (hm : -9223372036854775808 ≤ m ∧ m ≤ 9223372036854775807) (h : b8 n = b8 m) : n = m := by
  have e : ∀ j,j < 8 → by1 n j = by1 m j := fun j hj => by
    have := congrArg (fun l => l[j]?) h
    simp only [b8,List.getElem?_map,List.getElem?_range hj,Option.map_some] at this
    exact Option.some.inj this
  have e0 := e 0 (by decide)
  have e1 := e 1 (by decide)
  have e2 := e 2 (by decide)
  have e3 := e 3 (by decide)
  have e4 := e 4 (by decide)
  have e5 := e 5 (by decide)
  have e6 := e 6 (by decide)
  have e7 := e 7 (by decide)
  clear e h
  simp only [by1,wrap_u64] at e0 e1 e2 e3 e4 e5 e6 e7
  simp at e0 e1 e2 e3 e4 e5 e6 e7
  omega
def wfP (p : S40) : Prop := (-9223372036854775808 ≤ p.f0 ∧ p.f0 ≤ 9223372036854775807) ∧ (-9223372036854775808 ≤ p.f1 ∧ p.f1 ≤ 9223372036854775807)
theorem b8_length (n : Int) : (b8 n).length = 8 := by simp [b8]
theorem textL_cons (p : S40) (l : List S40) : textL (p :: l) = b8 p.f0 ++ (b8 p.f1 ++ textL l) := by simp [textL]
theorem textL_inj : ∀ (l l' : List S40),(∀ p ∈ l,wfP p) → (∀ p ∈ l',wfP p) → textL l = textL l' → l = l'
  | [],[],_,_,_ => rfl
  | [],p :: l',_,_,h => by
    have := congrArg List.length h
    rw [textL_length,textL_length] at this
    simp at this
  | p :: l,[],_,_,h => by
    have := congrArg List.length h
    rw [textL_length,textL_length] at this
    simp at this
  | p :: l,q :: l',h1,h2,h => by
    rw [textL_cons,textL_cons] at h
    obtain ⟨ha,h⟩ := List.append_inj h (by rw [b8_length,b8_length])
    obtain ⟨hb,h⟩ := List.append_inj h (by rw [b8_length,b8_length])
    have hp := h1 p List.mem_cons_self
    have hq := h2 q List.mem_cons_self
    have e1 := b8_inj hp.1 hq.1 ha
    have e2 := b8_inj hp.2 hq.2 hb
    have e3 := textL_inj l l' (fun x hx => h1 x (List.mem_cons_of_mem _ hx)) (fun x hx => h2 x (List.mem_cons_of_mem _ hx)) h
    obtain ⟨a,b⟩ := p
    obtain ⟨c,d⟩ := q
    simp only at e1 e2
    rw [e1,e2,e3]
theorem map_inj {α β : Type} (f : α → β) : ∀ (l l' : List α),(∀ x ∈ l,∀ y ∈ l',f x = f y → x = y) → l.map f = l'.map f → l = l'
  | [],[],_,_ => rfl
  | [],_ :: _,_,h => by simp at h
  | _ :: _,[],_,h => by simp at h
  | a :: l,b :: l',hf,h => by
    simp only [List.map_cons,List.cons.injEq] at h
    rw [hf a List.mem_cons_self b List.mem_cons_self h.1,map_inj f l l' (fun x hx y hy => hf x (List.mem_cons_of_mem _ hx) y (List.mem_cons_of_mem _ hy)) h.2]
theorem txtU_inj {l l' : List S40} (h1 : ∀ p ∈ l,wfP p) (h2 : ∀ p ∈ l',wfP p) (h : txtU l = txtU l') : l = l' := by
  refine textL_inj l l' h1 h2 (map_inj _ _ _ (fun x hx y hy he => ?_) h)
  have hbx := textL_byte l x hx
  have hby := textL_byte l' y hy
  have := congrArg UInt8.toNat he
  rw [UInt8.toNat_ofNat',UInt8.toNat_ofNat'] at this
  omega
end Go.Proofs.Ytkoiffkonjpoiaa.Y
namespace Go.Proofs.Ytkoiffkonjpoiaa.Y
open Go.RowKit Go.Proofs.Ytkoiffkonjpoiaa.Q Go.Proofs.YtkoiffkonjpoiaaW.PrintWords Go.Proofs.YtkoiffkonjpoiaaW.PrintLast
theorem MSame_f (k : Nat) (a0 : Int) (a1 : Bool) (a2 a3 : Int) (l : List S40) (a5 : Bool) (b0 : Int) (b1 : Bool) (b2 b3 : Int) (m : List S40) (b5 : Bool) (hl : l.length < 1000) (hk : 1000 ≤ k) :
    model_Same.f k a0 a1 a2 a3 l a5 b0 b1 b2 b3 m b5 = some (decide (a0 = b0 ∧ a1 = b1 ∧ a2 = b2 ∧ a3 = b3 ∧ l = m)) := by
  unfold model_Same.f
  by_cases h0 : a0 = b0
  · by_cases h1 : a1 = b1
    · by_cases h2 : a2 = b2
      · by_cases h3 : a3 = b3
        · rw [if_pos h0,if_pos (by simp [h1]),if_pos h2,if_pos h3,Equal_f _ _ _ hl hk,Option.bind_some]
          simp [h0,h1,h2,h3]
        · rw [if_pos h0,if_pos (by simp [h1]),if_pos h2,if_neg h3];simp [h3]
      · rw [if_pos h0,if_pos (by simp [h1]),if_neg h2];simp [h2]
    · rw [if_pos h0,if_neg (by simp [h1])];simp [h1]
  · rw [if_neg h0];simp [h0]
theorem LSame_f (k : Nat) (a0 : Int) (a1 : Bool) (a2 a3 : Int) (l : List S40) (a5 : Bool) (b0 : Int) (b1 : Bool) (b2 b3 : Int) (m : List S40) (b5 : Bool) (hl : l.length < 1000) (hk : 1000 ≤ k) :
    boscagelaw18_Same.f k a0 a1 a2 a3 l a5 b0 b1 b2 b3 m b5 = some (decide (a0 = b0 ∧ a1 = b1 ∧ a2 = b2 ∧ a3 = b3 ∧ l = m)) := by
  unfold boscagelaw18_Same.f
  by_cases h0 : a0 = b0
  · by_cases h1 : a1 = b1
    · by_cases h2 : a2 = b2
      · by_cases h3 : a3 = b3
        · rw [if_pos h0,if_pos (by simp [h1]),if_pos h2,if_pos h3,Same_f _ _ _ hl hk,Option.bind_some]
          simp [h0,h1,h2,h3]
        · rw [if_pos h0,if_pos (by simp [h1]),if_pos h2,if_neg h3];simp [h3]
      · rw [if_pos h0,if_pos (by simp [h1]),if_neg h2];simp [h2]
    · rw [if_pos h0,if_neg (by simp [h1])];simp [h1]
  · rw [if_neg h0];simp [h0]
/-- Pairs that rise, of numbers of 64 bits. -/
def goodP (p : List S40) : Prop := srt p ∧ ∀ q ∈ p,wfP q
def okE (e : S128) : Prop := X.wf e.f1.f1 ∧ X.wf e.f1.f3
theorem goodP_keys {p : List S40} (h : goodP p) : ∀ q ∈ p,X.wf q.f0 := fun q hq => by
  have hb := (h.2 q hq).1
  show (decide (IntKind.i64.min ≤ q.f0) && decide (q.f0 ≤ IntKind.i64.max)) = true
  have e1 : IntKind.i64.min = -9223372036854775808 := by decide
  have e2 : IntKind.i64.max = 9223372036854775807 := by decide
  rw [e1,e2,decide_eq_true hb.1,decide_eq_true hb.2]
  rfl
theorem step_ok (m : Nat) (hm : 6000 ≤ m) {p : List S40} (hp : goodP p) (hl : p.length < 900) {e : S128} (he : okE e) : ∃ x,stepE (m + 1) p e = some x ∧ ∀ q,x = some q → goodP q ∧ q.length ≤ p.length + 1 := by
  obtain ⟨l',r1,r2,r3,r4,q,t,h1,h2,hs',hw',hl',hq,hd⟩ := MC_cases m p hp.1 hl e.f1.f0 e.f1.f1 e.f1.f2 e.f1.f3 hm (goodP_keys hp) he.1
  have hg : goodP l' ∧ l'.length ≤ p.length + 1 := by
    refine ⟨⟨hs',fun x hx => ?_⟩,hl'⟩
    rcases hd with rfl | rfl | rfl
    · exact hp.2 x hx
    · rcases mem_putL hx with h | rfl
      · exact hp.2 x h
      · exact ⟨wf_bounds he.1,wf_bounds he.2⟩
    · unfold cutL at hx
      rcases List.mem_append.1 hx with h | h
      · exact hp.2 x (mem_lo h).1
      · exact hp.2 x (mem_hi h).1
  unfold stepE
  rw [h1,Option.bind_some]
  dsimp only
  rw [if_pos (by omega)]
  by_cases h0 : 0 ≤ e.f3
  · rw [if_pos h0,MSame_f _ _ _ _ _ _ _ _ _ _ _ _ _ (by omega) (by omega),Option.bind_some]
    refine ⟨_,rfl,fun y hy => ?_⟩
    split at hy
    · cases hy;exact hg
    · cases hy
  · rw [if_neg h0]
    exact ⟨_,rfl,fun y hy => by cases hy;exact hg⟩
theorem evs_at (k : Nat) (l : List S128) (i : Nat) : (l.map (evOf k))[i]? = (l[i]?).map (evOf k) := List.getElem?_map ..
/-- The search from the beginning: the first legal order, or there is none. -/
theorem order_spec (m : Nat) (hm : 6000 ≤ m) (first : List S40) (l : List S128) (hf : goodP first) (hl : first.length < 700) (hn : l.length ≤ 62) (hok : ∀ e ∈ l,okE e) :
    ∃ so,Order.f (m + 1) first l = some ((Srch.srch (stOf (m + 1) l) 100 0 first).isSome,so) ∧ ((Srch.srch (stOf (m + 1) l) 100 0 first).isSome = true → Srch.srch (stOf (m + 1) l) 100 0 first = some so) ∧ ((Srch.srch (stOf (m + 1) l) 100 0 first).isSome = false → so = []) := by
  have hS : (stOf (m + 1) l).n = l.length := List.length_map ..
  obtain ⟨b,seen',so',h1,h2,h3,h4⟩ := Srch.find_top (stOf (m + 1) l) txtU (stepF (m + 1) l) (fun f p => goodP p ∧ p.length + f < 900) goodP (fun _ _ h => h.1) (fun p q hp hq h => txtU_inj hp.2 hq.2 h) (fun f p hp i hi => by
    rw [hS] at hi
    have hli : l[i]? = some l[i] := List.getElem?_eq_getElem hi
    obtain ⟨x,hx,hy⟩ := step_ok m hm hp.1 (by omega) (hok _ (List.getElem_mem hi))
    have e1 : (stOf (m + 1) l).step p i = x := by
      show Srch.stepAt _ p i = x
      unfold Srch.stepAt
      rw [evs_at,hli]
      show (stepE (m + 1) p l[i]).join = x
      rw [hx]
      rfl
    refine ⟨?_,fun q hq => ?_⟩
    · rw [e1]
      unfold stepF
      rw [hli]
      exact hx
    · rw [e1] at hq
      obtain ⟨g1,g2⟩ := hy q hq
      exact ⟨g1,by omega⟩) 100 first ⟨hf,by omega⟩ (by rw [hS];omega)
  refine ⟨so',?_,fun h => h3 (h2.trans h),fun h => h4 (h2.trans h)⟩
  unfold Order.f
  rw [if_neg (by omega),if_pos (by omega)]
  show (Srch.find (stOf (m + 1) l) txtU (stepF (m + 1) l) 100 0 first [] []).bind _ = _
  rw [h1,Option.bind_some,← h2]
  cases b with
  | true => rfl
  | false => rw [h4 rfl];rfl
end Go.Proofs.Ytkoiffkonjpoiaa.Y
namespace Go.Proofs.Ytkoiffkonjpoiaa.Y
open Go.RowKit Go.Proofs.Ytkoiffkonjpoiaa.Q Go.Proofs.YtkoiffkonjpoiaaW.PrintWords Go.Proofs.YtkoiffkonjpoiaaW.PrintLast
theorem law_step (m : Nat) (hm : 6000 ≤ m) {p : List S40} (hp : goodP p) (hl : p.length < 900) {e : S128} (he : okE e) : lawE (m + 1) p e = stepE (m + 1) p e := by
  obtain ⟨l',r1,r2,r3,r4,q,t,h1,h2,hs',hw',hl',hq,hd⟩ := MC_cases m p hp.1 hl e.f1.f0 e.f1.f1 e.f1.f2 e.f1.f3 hm (goodP_keys hp) he.1
  unfold lawE stepE
  rw [h1,h2,Option.bind_some,Option.bind_some]
  dsimp only
  rw [if_pos (show l'.length < 8796093022208 by omega),LSame_f _ _ _ _ _ _ _ _ _ _ _ _ _ (by omega) (by omega),MSame_f _ _ _ _ _ _ _ _ _ _ _ _ _ (by omega) (by omega)]
theorem fits_one {P : Type} (S : Srch.St P) {p q : P} {so : List Nat} (hF : Srch.Fits S p so) (hc : Srch.chain S p so = some q) (i : Nat) :
    Srch.Fits S p (so ++ [i]) ↔ i ∉ so ∧ i < S.n ∧ S.may i = true ∧ (∀ j ∈ so,S.before i j = false) ∧ (S.step q i).isSome = true := by
  obtain ⟨h1,h2,h3,h4⟩ := hF
  constructor
  · rintro ⟨g1,g2,g3,g4⟩
    have hi := g2 i (by simp)
    refine ⟨fun hm => (List.nodup_append.1 g1).2.2 i hm i (by simp) rfl,hi.1,hi.2,fun j hj => (List.pairwise_append.1 g3).2.2 j hj i (by simp),?_⟩
    rw [Srch.chain_append,hc] at g4
    simp only [Option.bind_some,Srch.chain] at g4
    cases hs : S.step q i with
    | none => rw [hs] at g4;cases g4
    | some r => rfl
  · rintro ⟨g1,g2,g3,g5,g4⟩
    refine ⟨List.nodup_append.2 ⟨h1,by simp,fun a ha b hb => ?_⟩,fun j hj => ?_,List.pairwise_append.2 ⟨h3,by simp,fun j hj b hb => ?_⟩,?_⟩
    · obtain rfl : b = i := by simpa using hb
      exact fun e => g1 (e ▸ ha)
    · rcases List.mem_append.1 hj with hj | hj
      · exact h2 j hj
      · obtain rfl : j = i := by simpa using hj
        exact ⟨g2,g3⟩
    · obtain rfl : b = i := by simpa using hb
      exact g5 j hj
    · rw [Srch.chain_append,hc]
      simp only [Option.bind_some,Srch.chain]
      cases hs : S.step q i with
      | none => rw [hs] at g4;cases g4
      | some r => rfl
theorem fits_left {P : Type} (S : Srch.St P) {p : P} {a b : List Nat} (h : Srch.Fits S p (a ++ b)) : Srch.Fits S p a := by
  obtain ⟨h1,h2,h3,h4⟩ := h
  refine ⟨(List.nodup_append.1 h1).1,fun j hj => h2 j (List.mem_append_left _ hj),(List.pairwise_append.1 h3).1,?_⟩
  rw [Srch.chain_append] at h4
  cases hx : Srch.chain S p a with
  | none => rw [hx] at h4;cases h4
  | some _ => rfl
theorem rd128_at (l : List S128) {i : Nat} (hi : i < l.length) : l[i]? = some (rd_T128 l (i : Int)) := by simp [rd_T128,hi]
theorem S_step (k : Nat) (l : List S128) {i : Nat} (hi : i < l.length) (p : List S40) : (stOf k l).step p i = (stepE k p (rd_T128 l (i : Int))).join := by
  show Srch.stepAt _ p i = _
  unfold Srch.stepAt
  rw [evs_at,rd128_at l hi]
  rfl
theorem fitsGo_spec (m : Nat) (hm : 6000 ≤ m) (first : List S40) (l : List S128) (hok : ∀ e ∈ l,okE e) : ∀ (order : List Int) (pre : List Nat) (now : List S40),Srch.Fits (stOf (m + 1) l) first pre → Srch.chain (stOf (m + 1) l) first pre = some now → goodP now → now.length + order.length < 900 →
    ∃ b,fitsGo (m + 1) l pre now order = some b ∧ (b = true ↔ (∀ i ∈ order,0 ≤ i) ∧ Srch.Fits (stOf (m + 1) l) first (pre ++ order.map Int.toNat))
  | [],pre,now,hF,_,_,_ => ⟨true,rfl,by simp [hF]⟩
  | i :: r,pre,now,hF,hc,hg,hl => by
    rw [List.length_cons] at hl
    have hS : (stOf (m + 1) l).n = l.length := List.length_map ..
    simp only [fitsGo]
    by_cases h0 : i < 0 ∨ (l.length : Int) ≤ i
    · rw [if_pos h0]
      refine ⟨false,rfl,by simp,fun h => ?_⟩
      exfalso
      rcases h0 with h0 | h0
      · have := h.1 i List.mem_cons_self
        omega
      · have := h.2.2.1 i.toNat (by simp)
        rw [hS] at this
        omega
    · rw [if_neg h0]
      obtain ⟨j,rfl⟩ := Int.eq_ofNat_of_zero_le (show 0 ≤ i by omega)
      have hj : j < l.length := by omega
      have e1 : pre ++ ((j : Int) :: r).map Int.toNat = (pre ++ [j]) ++ r.map Int.toNat := by simp
      have hone := fits_one (stOf (m + 1) l) hF hc j
      rw [may_evs (m + 1) l (rd128_at l hj),S_step (m + 1) l hj] at hone
      have hno : ¬ Srch.Fits (stOf (m + 1) l) first (pre ++ [j]) → ((false = true) ↔ (∀ i ∈ ((j : Int) :: r),0 ≤ i) ∧ Srch.Fits (stOf (m + 1) l) first (pre ++ ((j : Int) :: r).map Int.toNat)) := fun hn => ⟨fun h => (by cases h),fun h => by
        rw [e1] at h
        exact absurd (fits_left _ h.2) hn⟩
      rw [Int.toNat_natCast]
      by_cases h1 : noneE (rd_T128 l (j : Int)) = true
      · rw [if_pos h1]
        exact ⟨false,rfl,hno (fun h => by have := (hone.1 h).2.2.1;rw [h1] at this;cases this)⟩
      · rw [if_neg h1]
        by_cases h2 : (pre.any fun x => x == j || (mustE (rd_T128 l (j : Int)) && decide ((rd_T128 l (j : Int)).f3 < (rd_T128 l (x : Int)).f2))) = true
        · rw [if_pos h2]
          refine ⟨false,rfl,hno (fun h => ?_)⟩
          obtain ⟨g1,_,_,g4,_⟩ := hone.1 h
          obtain ⟨x,hx,hxx⟩ := List.any_eq_true.1 h2
          have hxl : x < l.length := by have := (hF.2.1 x hx).1;rw [hS] at this;exact this
          rcases Bool.or_eq_true_iff.1 hxx with hx1 | hx1
          · exact g1 (by rw [beq_iff_eq] at hx1;exact hx1 ▸ hx)
          · have := g4 x hx
            rw [before_evs (m + 1) l (rd128_at l hxl) (rd128_at l hj),hx1] at this
            cases this
        · rw [if_neg h2,law_step m hm hg (by omega) (hok _ (List.mem_of_getElem? (rd128_at l hj)))]
          obtain ⟨x,hx,hy⟩ := step_ok m hm hg (by omega) (hok _ (List.mem_of_getElem? (rd128_at l hj)))
          rw [hx] at hone ⊢
          rw [Option.bind_some]
          cases x with
          | none => exact ⟨false,rfl,hno (fun h => by have := (hone.1 h).2.2.2.2;cases this)⟩
          | some q =>
            have hFj : Srch.Fits (stOf (m + 1) l) first (pre ++ [j]) := hone.2 ⟨fun hm => h2 (List.any_eq_true.2 ⟨j,hm,by simp⟩),by rw [hS];exact hj,by simpa using h1,fun x hx => by
              have hxl : x < l.length := by have := (hF.2.1 x hx).1;rw [hS] at this;exact this
              rw [before_evs (m + 1) l (rd128_at l hxl) (rd128_at l hj)]
              cases hb : (mustE (rd_T128 l (j : Int)) && decide ((rd_T128 l (j : Int)).f3 < (rd_T128 l (x : Int)).f2)) with
              | false => rfl
              | true => exact absurd (List.any_eq_true.2 ⟨x,hx,by rw [hb];simp⟩) h2,rfl⟩
            have hcj : Srch.chain (stOf (m + 1) l) first (pre ++ [j]) = some q := Srch.chain_snoc _ hc (by rw [S_step (m + 1) l hj,hx];rfl)
            obtain ⟨g1,g2⟩ := hy q rfl
            obtain ⟨b,hb1,hb2⟩ := fitsGo_spec m hm first l hok r (pre ++ [j]) q hFj hcj g1 (by omega)
            refine ⟨b,hb1,?_⟩
            rw [hb2,e1]
            refine and_congr_left fun _ => ?_
            constructor
            · intro h i hi
              rcases List.mem_cons.1 hi with rfl | hi
              · omega
              · exact h i hi
            · exact fun h i hi => h i (List.mem_cons_of_mem _ hi)
/-- May these be the first ones of an order: just if they fit. -/
theorem fits_spec (m : Nat) (hm : 6000 ≤ m) (first : List S40) (l : List S128) (hok : ∀ e ∈ l,okE e) (order : List Int) (hf : goodP first) (hl : first.length + order.length < 900) :
    ∃ b,Fits.f (m + 1) first l order = some b ∧ (b = true ↔ (∀ i ∈ order,0 ≤ i) ∧ Srch.Fits (stOf (m + 1) l) first (order.map Int.toNat)) :=
  fitsGo_spec m hm first l hok order [] first (Srch.fits_nil _ _) rfl hf hl
end Go.Proofs.Ytkoiffkonjpoiaa.Y
namespace Go.Proofs.Ytkoiffkonjpoiaa.Y
open Go.RowKit Go.Proofs.Ytkoiffkonjpoiaa.Q Go.Proofs.YtkoiffkonjpoiaaW.PrintWords Go.Proofs.YtkoiffkonjpoiaaW.PrintLast
end Go.Proofs.Ytkoiffkonjpoiaa.Y
namespace Go.Proofs.Ytkoiffkonjpoiaa.Y
open Go.RowKit Go.Proofs.Ytkoiffkonjpoiaa.Q Go.Proofs.YtkoiffkonjpoiaaW.PrintWords Go.Proofs.YtkoiffkonjpoiaaW.PrintLast
theorem whole_spec (k : Nat) (l : List S128) (order : List Int) (h0 : ∀ i ∈ order,0 ≤ i) : Whole.f l order = true ↔ Srch.Whole (stOf k l) (order.map Int.toNat) := by
  have hS : (stOf k l).n = l.length := List.length_map ..
  have hin : ∀ i : Nat,isIn order i = true ↔ i ∈ order.map Int.toNat := fun i => by
    unfold isIn
    rw [List.any_eq_true,List.mem_map]
    constructor
    · rintro ⟨x,hx,he⟩
      rw [beq_iff_eq] at he
      exact ⟨x,hx,by omega⟩
    · rintro ⟨x,hx,he⟩
      have := h0 x hx
      exact ⟨x,hx,by rw [beq_iff_eq];omega⟩
  unfold Whole.f Srch.Whole
  rw [List.all_eq_true]
  constructor
  · intro h i hi hm
    rw [hS] at hi
    rw [mustAt_evs,rd128_at l hi] at hm
    have := h i (List.mem_range.2 hi)
    unfold wholeI at this
    dsimp only at hm
    rw [hm] at this
    exact (hin i).1 (by simpa using this)
  · intro h i hi
    have hi' := List.mem_range.1 hi
    unfold wholeI
    cases hm : mustE (rd_T128 l (i : Int)) with
    | false => rfl
    | true =>
      have := (hin i).2 (h i (by rw [hS];exact hi') (by rw [mustAt_evs,rd128_at l hi'];exact hm))
      rw [this]
      rfl
end Go.Proofs.Ytkoiffkonjpoiaa.Y
namespace Go.Proofs.Ytkoiffkonjpoiaa.Y
open Go.RowKit Go.Proofs.Ytkoiffkonjpoiaa.Q Go.Proofs.YtkoiffkonjpoiaaW.PrintWords Go.Proofs.YtkoiffkonjpoiaaW.PrintLast
def fitsB (k : Nat) (first : List S40) (l : List S128) (so : List Nat) : Bool := (Fits.f k first l (toI so)).getD false
def wholeB (l : List S128) (so : List Nat) : Bool := Whole.f l (toI so)
theorem toI_back (so : List Nat) : (toI so).map Int.toNat = so := by simp [toI,Function.comp_def]
theorem toI_nonneg (so : List Nat) : ∀ i ∈ toI so,0 ≤ i := by
  intro i hi
  obtain ⟨j,_,rfl⟩ := List.mem_map.1 hi
  exact Int.natCast_nonneg j
theorem firstGo_spec (again : List Int → Option (Bool × List Int)) (g : List Nat → Option (List Nat)) (so : List Nat) (h : ∀ i,again (toI (so ++ [i])) = some ((g (so ++ [i])).isSome,toI ((g (so ++ [i])).getD []))) :
    ∀ is : List Nat,firstGo again (toI so) is = some ((is.findSome? fun i => g (so ++ [i])).isSome,toI ((is.findSome? fun i => g (so ++ [i])).getD []))
  | [] => rfl
  | i :: r => by
    simp only [firstGo]
    rw [← toI_snoc,h i,Option.bind_some,List.findSome?_cons]
    cases hg : g (so ++ [i]) with
    | none => rw [if_neg (by simp)];exact firstGo_spec again g so h r
    | some x => rfl
theorem first_spec (m : Nat) (hm : 6000 ≤ m) (first : List S40) (l : List S128) (hok : ∀ e ∈ l,okE e) (hf : goodP first) : ∀ (n : Nat) (so : List Nat),first.length + so.length + n < 900 → l.length + 1 ≤ n + so.length →
    First.f (m + 1) first l (n + 1) (toI so) = some ((Srch.first (fitsB (m + 1) first l) (wholeB l) l.length (n + 1) so).isSome,toI ((Srch.first (fitsB (m + 1) first l) (wholeB l) l.length (n + 1) so).getD [])) := by
  intro n
  induction n with
  | zero =>
    intro so hl hn
    have hS : (stOf (m + 1) l).n = l.length := List.length_map ..
    obtain ⟨b,hb1,hb2⟩ := fits_spec m hm first l hok (toI so) hf (by simp [toI];omega)
    have hfb : fitsB (m + 1) first l so = b := by unfold fitsB;rw [hb1];rfl
    simp only [First.f,Srch.first]
    rw [hb1,Option.bind_some,hfb]
    cases b with
    | false => rfl
    | true =>
      exfalso
      have := (hb2.1 rfl).2
      rw [toI_back] at this
      have := Srch.legal_length _ this
      rw [hS] at this
      omega
  | succ n ih =>
    intro so hl hn
    obtain ⟨b,hb1,hb2⟩ := fits_spec m hm first l hok (toI so) hf (by simp [toI];omega)
    have hfb : fitsB (m + 1) first l so = b := by unfold fitsB;rw [hb1];rfl
    rw [First.f,Srch.first,hb1,Option.bind_some,hfb]
    cases b with
    | false => rfl
    | true =>
      rw [if_pos rfl,if_pos rfl]
      cases hw : Whole.f l (toI so) with
      | true => rw [if_pos rfl,if_pos (show wholeB l so = true from hw)];rfl
      | false =>
        rw [if_neg (by simp),if_neg (show ¬ wholeB l so = true by unfold wholeB;rw [hw];simp)]
        exact firstGo_spec _ _ so (fun i => ih (so ++ [i]) (by simp;omega) (by simp;omega)) _
theorem first_same {fits fits2 whole : List Nat → Bool} {n : Nat} : ∀ (f : Nat) (so : List Nat),(∀ x : List Nat,x.length ≤ so.length + f → fits x = fits2 x) → Srch.first fits whole n f so = Srch.first fits2 whole n f so
  | 0,_,_ => rfl
  | f + 1,so,h => by
    simp only [Srch.first]
    rw [h so (by omega)]
    split
    · split
      · rfl
      · exact Srch.findSome_congr (fun i _ => first_same f (so ++ [i]) (fun x hx => h x (by simp at hx;omega)))
    · rfl
/-- The document's first order is the search's. -/
theorem first_doc (m : Nat) (hm : 6000 ≤ m) (first : List S40) (l : List S128) (hok : ∀ e ∈ l,okE e) (hf : goodP first) (hl : first.length < 700) (hn : l.length ≤ 62) :
    First.f (m + 1) first l 100 [] = some ((Srch.srch (stOf (m + 1) l) 100 0 first).isSome,toI ((Srch.srch (stOf (m + 1) l) 100 0 first).getD [])) := by
  have hS : (stOf (m + 1) l).n = l.length := List.length_map ..
  have h1 := first_spec m hm first l hok hf 99 [] (by simp;omega) (by simp;omega)
  have hfit : ∀ so : List Nat,so.length ≤ 100 → (fitsB (m + 1) first l so = true ↔ Srch.Fits (stOf (m + 1) l) first so) := fun so hso => by
    obtain ⟨b,hb1,hb2⟩ := fits_spec m hm first l hok (toI so) hf (by simp [toI];omega)
    have hfb : fitsB (m + 1) first l so = b := by unfold fitsB;rw [hb1];rfl
    rw [hfb,hb2,toI_back]
    exact ⟨fun h => h.2,fun h => ⟨toI_nonneg so,h⟩⟩
  have hlen : ∀ so,Srch.Fits (stOf (m + 1) l) first so → so.length ≤ 62 := fun so h => by
    have := Srch.legal_length _ h
    rw [hS] at this
    omega
  have h2 := Srch.first_nil (fits := fun so => fitsB (m + 1) first l so && decide (so.length ≤ 62)) (whole := wholeB l) (stOf (m + 1) l) first (fun so => by
    rw [Bool.and_eq_true,decide_eq_true_iff]
    constructor
    · exact fun h => (hfit so (by omega)).1 h.1
    · exact fun h => ⟨(hfit so (by have := hlen so h;omega)).2 h,hlen so h⟩) (fun so => by
    have := whole_spec (m + 1) l (toI so) (toI_nonneg so)
    rw [toI_back] at this
    exact this) 100
  have h3 : Srch.first (fitsB (m + 1) first l) (wholeB l) l.length 100 [] = Srch.first (fun so => fitsB (m + 1) first l so && decide (so.length ≤ 62)) (wholeB l) l.length 100 [] := first_same 100 [] (fun x hx => by
    simp at hx
    by_cases hx2 : x.length ≤ 62
    · rw [decide_eq_true hx2,Bool.and_true]
    · rw [decide_eq_false hx2,Bool.and_false]
      cases hb : fitsB (m + 1) first l x with
      | false => rfl
      | true => exact absurd (hlen x ((hfit x hx).1 hb)) hx2)
  rw [hS] at h2
  rw [h3,h2] at h1
  exact h1
end Go.Proofs.Ytkoiffkonjpoiaa.Y
namespace Go.Proofs.Ytkoiffkonjpoiaa.Y
open Go.RowKit Go.Proofs.Ytkoiffkonjpoiaa.Q Go.Proofs.YtkoiffkonjpoiaaW.PrintWords Go.Proofs.YtkoiffkonjpoiaaW.PrintLast
/-- An event's bounds. -/
def bndE (e : S128) : Prop := okE e ∧ -100 ≤ e.f2 ∧ e.f2 ≤ 1000 ∧ -1 ≤ e.f3 ∧ e.f3 ≤ 1000
/-- An event was done at its time, or did nothing. -/
structure Did (k i : Nat) (now now' : List S40) (e : S128) : Prop where
  bnd : bndE e
  beg : e.f2 ≤ 10 * (i : Int) + 5
  fin : mustE e = true → 10 * (i : Int) + 5 ≤ e.f3
  how : (stepE k now e = some (some now') ∧ noneE e = false) ∨ (mustE e = false ∧ now' = now)
  good : goodP now'
  len : now'.length ≤ now.length + 1
inductive Told (k : Nat) : Nat → List S40 → List S128 → Prop
  | nil (i : Nat) (now : List S40) : Told k i now []
  | cons {i : Nat} {now now' : List S40} {e : S128} {r : List S128} : Did k i now now' e → Told k (i + 1) now' r → Told k i now (e :: r)
def okD (d : S126) : Prop := (X.wf d.f0.f1 ∧ X.wf d.f0.f3) ∧ 0 ≤ d.f1 ∧ 0 ≤ d.f2
theorem none_err {i b n : Int} {o : S78} {a : S84} (h : a.f0 = 0 ∨ a.f0 = 10) : noneE ⟨i,o,b,n,a⟩ = false := by
  unfold noneE
  rcases h with h | h <;> simp [h]
theorem must_open {i b n : Int} {o : S78} {a : S84} (hn : n < 0) : mustE ⟨i,o,b,n,a⟩ = false := by
  unfold mustE
  rw [decide_eq_false (by show ¬ 0 ≤ n;omega)]
  rfl
theorem must_err {i b n : Int} {o : S78} {a : S84} (h : a.f0 = 3 ∨ a.f0 = 4) : mustE ⟨i,o,b,n,a⟩ = false := by
  unfold mustE
  rcases h with h | h <;> simp [h]
theorem hist_did (m : Nat) (hm : 6000 ≤ m) (now : List S40) (i : Nat) (d : S126) (hg : goodP now) (hl : now.length < 900) (hd : okD d) (hi : i < 90) :
    ∃ x,histE (m + 1) now i d = some x ∧ Did (m + 1) i now x.1 x.2 ∧ (d.f3.tmod 8 ≠ 5 → d.f3.tmod 8 ≠ 6 → d.f3.tmod 8 ≠ 7 → stepE (m + 1) now x.2 = some (some x.1) ∧ noneE x.2 = false ∧ x.2.f2 = 10 * (i : Int) + 5 - d.f1.tmod 50 ∧ x.2.f3 = 10 * (i : Int) + 5 + d.f2.tmod 50) := by
  obtain ⟨⟨hd1,hd2⟩,hb,ha⟩ := hd
  obtain ⟨l',r1,r2,r3,r4,q,t,h1,h2,hs',hw',hl',hq,_,hr1⟩ := MC_err m now hg.1 hl d.f0.f0 d.f0.f1 d.f0.f2 d.f0.f3 hm (goodP_keys hg) hd1
  have b0 := Int.tmod_nonneg 50 hb
  have b1 := Int.tmod_lt_of_pos d.f1 (show (0 : Int) < 50 by decide)
  have a0 := Int.tmod_nonneg 50 ha
  have a1 := Int.tmod_lt_of_pos d.f2 (show (0 : Int) < 50 by decide)
  have hok : ∀ (j b n : Int) (a : S84),okE ⟨j,d.f0,b,n,a⟩ := fun _ _ _ _ => ⟨hd1,hd2⟩
  have hst : ∀ e : S128,okE e → stepE (m + 1) now e = some (some l') → goodP l' ∧ l'.length ≤ now.length + 1 := fun e he hs => by
    obtain ⟨x,hx,hy⟩ := step_ok m hm hg hl he
    rw [hs] at hx
    cases hx
    exact hy l' rfl
  unfold histE
  by_cases c5 : d.f3.tmod 8 = 5
  · rw [if_pos c5,h2,Option.bind_some]
    have hs : stepE (m + 1) now ⟨i,d.f0,10 * (i : Int) + 5 - d.f1.tmod 50,-1,zA⟩ = some (some l') := by
      unfold stepE
      rw [h1,Option.bind_some]
      dsimp only
      rw [if_pos (by omega),if_neg (by decide)]
    obtain ⟨g1,g2⟩ := hst _ (hok _ _ _ _) hs
    refine ⟨_,rfl,⟨⟨hok _ _ _ _,?_,?_,?_,?_⟩,?_,fun h => ?_,.inl ⟨hs,?_⟩,g1,g2⟩,fun h => absurd c5 h⟩
    · show -100 ≤ 10 * (i : Int) + 5 - d.f1.tmod 50;omega
    · show 10 * (i : Int) + 5 - d.f1.tmod 50 ≤ 1000;omega
    · show (-1 : Int) ≤ -1;omega
    · show (-1 : Int) ≤ 1000;omega
    · show 10 * (i : Int) + 5 - d.f1.tmod 50 ≤ 10 * (i : Int) + 5;omega
    · rw [must_open (by omega)] at h;cases h
    · rfl
  · rw [if_neg c5]
    by_cases c6 : d.f3.tmod 8 = 6
    · rw [if_pos c6]
      refine ⟨_,rfl,⟨⟨hok _ _ _ _,?_,?_,?_,?_⟩,?_,fun h => ?_,.inr ⟨must_open (by omega),rfl⟩,hg,Nat.le_succ _⟩,fun _ h => absurd c6 h⟩
      · show -100 ≤ 10 * (i : Int) + 5 - d.f1.tmod 50;omega
      · show 10 * (i : Int) + 5 - d.f1.tmod 50 ≤ 1000;omega
      · show (-1 : Int) ≤ -1;omega
      · show (-1 : Int) ≤ 1000;omega
      · show 10 * (i : Int) + 5 - d.f1.tmod 50 ≤ 10 * (i : Int) + 5;omega
      · rw [must_open (by omega)] at h;cases h
    · rw [if_neg c6]
      by_cases c7 : d.f3.tmod 8 = 7
      · rw [if_pos c7]
        refine ⟨_,rfl,⟨⟨hok _ _ _ _,?_,?_,?_,?_⟩,?_,fun h => ?_,.inr ⟨must_err (.inl rfl),rfl⟩,hg,Nat.le_succ _⟩,fun _ _ h => absurd c7 h⟩
        · show -100 ≤ 10 * (i : Int) + 5 - d.f1.tmod 50;omega
        · show 10 * (i : Int) + 5 - d.f1.tmod 50 ≤ 1000;omega
        · show (-1 : Int) ≤ 10 * (i : Int) + 5 + d.f2.tmod 50;omega
        · show 10 * (i : Int) + 5 + d.f2.tmod 50 ≤ 1000;omega
        · show 10 * (i : Int) + 5 - d.f1.tmod 50 ≤ 10 * (i : Int) + 5;omega
        · rw [must_err (.inl rfl)] at h;cases h
      · rw [if_neg c7,h2,Option.bind_some]
        have hn : noneE ⟨i,d.f0,10 * (i : Int) + 5 - d.f1.tmod 50,10 * (i : Int) + 5 + d.f2.tmod 50,⟨r1,r2,r3,r4,q,t⟩⟩ = false := none_err hr1
        have hs : stepE (m + 1) now ⟨i,d.f0,10 * (i : Int) + 5 - d.f1.tmod 50,10 * (i : Int) + 5 + d.f2.tmod 50,⟨r1,r2,r3,r4,q,t⟩⟩ = some (some l') := by
          unfold stepE
          rw [h1,Option.bind_some]
          dsimp only
          rw [if_pos (by omega),if_pos (by omega),MSame_f _ _ _ _ _ _ _ _ _ _ _ _ _ (by omega) (by omega),Option.bind_some]
          simp
        obtain ⟨g1,g2⟩ := hst _ (hok _ _ _ _) hs
        refine ⟨_,rfl,⟨⟨hok _ _ _ _,?_,?_,?_,?_⟩,?_,fun h => ?_,.inl ⟨hs,hn⟩,g1,g2⟩,fun _ _ _ => ⟨hs,hn,rfl,rfl⟩⟩
        · show -100 ≤ 10 * (i : Int) + 5 - d.f1.tmod 50;omega
        · show 10 * (i : Int) + 5 - d.f1.tmod 50 ≤ 1000;omega
        · show (-1 : Int) ≤ 10 * (i : Int) + 5 + d.f2.tmod 50;omega
        · show 10 * (i : Int) + 5 + d.f2.tmod 50 ≤ 1000;omega
        · show 10 * (i : Int) + 5 - d.f1.tmod 50 ≤ 10 * (i : Int) + 5;omega
        · show 10 * (i : Int) + 5 ≤ 10 * (i : Int) + 5 + d.f2.tmod 50;omega
theorem hist_told (m : Nat) (hm : 6000 ≤ m) : ∀ (l : List S126) (i : Nat) (now : List S40),goodP now → now.length + l.length < 900 → i + l.length < 90 → (∀ d ∈ l,okD d) → ∃ h,histGo (m + 1) i now l = some h ∧ Told (m + 1) i now h ∧ h.length = l.length
  | [],i,now,_,_,_,_ => ⟨[],rfl,.nil i now,rfl⟩
  | d :: r,i,now,hg,hl,hi,hd => by
    rw [List.length_cons] at hl hi
    obtain ⟨x,hx,hD,_⟩ := hist_did m hm now i d hg (by omega) (hd d List.mem_cons_self) (by omega)
    have := hD.len
    obtain ⟨h,h1,h2,h3⟩ := hist_told m hm r (i + 1) x.1 hD.good (by omega) (by omega) (fun d hd' => hd d (List.mem_cons_of_mem _ hd'))
    refine ⟨x.2 :: h,?_,.cons hD h2,by rw [List.length_cons,List.length_cons,h3]⟩
    simp only [histGo]
    rw [hx,Option.bind_some,h1,Option.bind_some]
theorem told_bnd {k : Nat} : ∀ {h : List S128} {i : Nat} {now : List S40},Told k i now h → ∀ e ∈ h,bndE e
  | [],_,_,_,e,he => by simp at he
  | a :: r,i,now,.cons hD hT,e,he => by
    rcases List.mem_cons.1 he with rfl | he
    · exact hD.bnd
    · exact told_bnd hT e he
theorem mem_insAt {out : List S128} {m : Nat} {e x : S128} (h : x ∈ insAt out m e) : x ∈ out ∨ x = e := by
  unfold insAt at h
  rcases List.mem_append.1 h with h | h
  · exact .inl (List.mem_of_mem_take h)
  · rcases List.mem_cons.1 h with h | h
    · exact .inr h
    · exact .inl (List.mem_of_mem_drop h)
theorem mem_turnGo (by_ : List Int) : ∀ (r out : List S128) (x : S128),x ∈ turnGo by_ out r → x ∈ out ∨ x ∈ r
  | [],out,x,h => .inl h
  | e :: r,out,x,h => by
    rcases mem_turnGo by_ r _ x h with h | h
    · rcases mem_insAt h with h | h
      · exact .inl h
      · exact .inr (h ▸ List.mem_cons_self)
    · exact .inr (List.mem_cons_of_mem _ h)
theorem mem_Turned {l : List S128} {by_ : List Int} {x : S128} (h : x ∈ Turned.f l by_) : x ∈ l := by
  rcases mem_turnGo by_ l [] x h with h | h
  · simp at h
  · exact h
theorem bnd_spoil {what : Int} {e : S128} (h : bndE e) : bndE (spoilE what e) := h
theorem mem_Spoilt {l : List S128} {which what : Int} (P : S128 → Prop) (hP : ∀ e ∈ l,P e) (hS : ∀ e ∈ l,P (spoilE what e)) : ∀ e ∈ Spoilt.f l which what,P e := by
  intro e he
  unfold Spoilt.f at he
  split at he
  · exact hP e he
  · rename_i h0
    have hlt : which.toNat % l.length < l.length := Nat.mod_lt _ (by have : ¬ l.length = 0 := fun h => h0 (.inl h);omega)
    rcases List.mem_or_eq_of_mem_set he with he | rfl
    · exact hP e he
    · exact hS _ (List.mem_of_getElem? (rd128_at l hlt))
theorem rising_good : ∀ (raw : List Int) (i : Int) (acc : List S40),(∀ y ∈ raw,X.wf y) → 0 ≤ i → i + raw.length ≤ 1000 → (∀ p ∈ acc,wfP p) → ∀ p ∈ risingL raw i acc,wfP p
  | [],_,_,_,_,_,ha => ha
  | a :: r,i,acc,hr,h0,h1,ha => by
    rw [List.length_cons] at h1
    refine rising_good r (i + 1) _ (fun y hy => hr y (List.mem_cons_of_mem _ hy)) (by omega) (by omega) (fun p hp => ?_)
    rcases mem_putL hp with h | rfl
    · exact ha p h
    · exact ⟨wf_bounds (hr a List.mem_cons_self),by show (_ : Int) ≤ i + 100 ∧ i + 100 ≤ _;omega⟩
theorem rise_good (raw : List Int) (hr : ∀ y ∈ raw,X.wf y) (hl : raw.length ≤ 1000) : goodP (rise raw) :=
  ⟨srt_rise raw,rising_good raw 0 [] hr (by omega) (by omega) (fun p hp => by simp at hp)⟩
/-- What a law of the story begins with. -/
theorem told_ok (m : Nat) (hm : 6000 ≤ m) (keys : List Int) (l : List S126) (hk : ∀ y ∈ keys,X.wf y) (hkl : keys.length ≤ 8) (hd : ∀ d ∈ l,okD d) (hl : l.length ≤ 30) :
    ∃ first h,boscagelaw02_Rising.f (m + 1) keys = some first ∧ goodP first ∧ first.length ≤ 8 ∧ History.f (m + 1) first l = some h ∧ Told (m + 1) 0 first h ∧ h.length = l.length ∧ ∀ e ∈ h,bndE e := by
  have hrl := rise_length keys
  obtain ⟨h,h1,h2,h3⟩ := hist_told m hm l 0 (rise keys) (rise_good keys hk (by omega)) (by omega) (by omega) hd
  exact ⟨rise keys,h,Rising_f keys _ (by omega) (by omega),rise_good keys hk (by omega),by omega,h1,h2,h3,told_bnd h2⟩
theorem told_all (m : Nat) (hm : 6000 ≤ m) (keys : List Int) (l : List S126) (by_ : List Int) (which what : Int) (hk : ∀ y ∈ keys,X.wf y) (hkl : keys.length ≤ 8) (hd : ∀ d ∈ l,okD d) (hl : l.length ≤ 30) :
    ∃ first h,told (m + 1) keys l by_ which what = some (first,h) ∧ goodP first ∧ first.length ≤ 8 ∧ h.length = l.length ∧ (∀ e ∈ h,bndE e) ∧ ∃ h0,h = Spoilt.f (Turned.f h0 by_) which what ∧ Told (m + 1) 0 first h0 := by
  obtain ⟨first,h,h1,h2,h3,h4,h5,h6,h7⟩ := told_ok m hm keys l hk hkl hd hl
  refine ⟨first,_,?_,h2,h3,by rw [Spoilt.length,Turned.length,h6],?_,h,rfl,h5⟩
  · unfold told
    rw [h1,Option.bind_some,h4,Option.bind_some]
  · exact mem_Spoilt bndE (fun e he => h7 e (mem_Turned he)) (fun e he => bnd_spoil (h7 e (mem_Turned he)))
end Go.Proofs.Ytkoiffkonjpoiaa.Y
namespace Go.Proofs.Ytkoiffkonjpoiaa.Y
open Go.RowKit Go.Proofs.Ytkoiffkonjpoiaa.Q Go.Proofs.YtkoiffkonjpoiaaW.PrintWords Go.Proofs.YtkoiffkonjpoiaaW.PrintLast
theorem deeds_ok {l : List S126} (h : ∀ d ∈ l,X.ok126 d) : (∀ d ∈ l,okD d) ∧ okDs l :=
  ⟨fun d hd => ⟨⟨(h d hd).1.2.1,(h d hd).1.2.2.2⟩,(X.wf8_bounds (h d hd).2.1).1,(X.wf8_bounds (h d hd).2.2.1).1⟩,fun d hd => ⟨(X.wf8_bounds (h d hd).2.1).1,(X.wf8_bounds (h d hd).2.2.1).1,(X.wf8_bounds (h d hd).2.2.2).1⟩⟩
theorem bytes_ok {l : List Int} (h : ∀ x ∈ l,X.wf8 x) : okBs l := fun x hx => X.wf8_bounds (h x hx)
theorem byte_ok {x : Int} (h : (Lit.int .u8 x).wf = true) : 0 ≤ x ∧ x < 256 := X.wf8_bounds h
end Go.Proofs.Ytkoiffkonjpoiaa.Y
