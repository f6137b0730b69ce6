/- The block of a shared row that is not empty is one of those that its reading is told to lead to. -/
import Derived.Test.YtkoiffkonjpoiaaWMore
namespace Go.Proofs.YtkoiffkonjpoiaaX
open Go.RowKit Go.Proofs.YtkoiffkonjpoiaaW.PrintWords Go.Proofs.YtkoiffkonjpoiaaW.PrintMore
theorem V_blk {α : Type} {d : Kd α} {e base : Nat} {ok : Nat → Prop} {W : World} {ad : Addr} {n c : Nat} {xs : List α} (h : Kd.V d e W base ok (.slice (some ad) n c) xs) (hn : 0 < xs.length) (hs : 0 < d.sz) : ok ad.block := by
  have hF := (Kd.V_at h).2.2
  rcases Classical.em (ok ad.block) with h1 | hno
  · exact h1
  exfalso
  have hC := hF { W with heap := W.heap.setIfInBounds ad.block (.cells #[] 0 (0, 0)) } (fun k hk _ => by
    show (W.heap.setIfInBounds ad.block _)[k]? = W.heap[k]?
    rw [Array.getElem?_setIfInBounds]
    exact if_neg (fun hh : ad.block = k => hno (by rw [hh]; exact hk)))
  obtain ⟨_, _, hr⟩ := hC
  obtain ⟨ad', e', hc⟩ := hr hn
  cases e'
  obtain ⟨c', hl, _, hcell⟩ := hc 0 xs[0] (List.getElem?_eq_getElem hn)
  have h0 : 0 < c'.length := by omega
  have := hcell 0 c'[0] (List.getElem?_eq_getElem h0)
  rw [Nat.zero_mul, Nat.zero_add] at this
  have hb : (ad.add 0).block = ad.block := by unfold Addr.add; split <;> rfl
  unfold World.cell? at this
  rw [hb] at this
  have hg : (W.heap.setIfInBounds ad.block (Obj.cells #[] 0 (0, 0)))[ad.block]? = if ad.block < W.heap.size then some (Obj.cells #[] 0 (0, 0)) else none := by
    rw [Array.getElem?_setIfInBounds, if_pos rfl]
  simp only [hg] at this
  by_cases hlt : ad.block < W.heap.size
  · simp only [if_pos hlt] at this
    split at this <;> simp at this
  · simp only [if_neg hlt] at this
    simp at this
end Go.Proofs.YtkoiffkonjpoiaaX
