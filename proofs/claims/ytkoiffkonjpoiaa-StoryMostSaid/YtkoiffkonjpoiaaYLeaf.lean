/- More plain lemmas on lists of pairs whose keys rise, and what the leaf's functions come to as plain Lean functions. No memory in it. -/
import Derived.Test.YtkoiffkonjpoiaaQM1
import Derived.Test.YtkoiffkonjpoiaaYLeaf0
namespace Go.Proofs.Ytkoiffkonjpoiaa.Y
open Go.RowKit Go.Proofs.Ytkoiffkonjpoiaa.Q Go.Proofs.YtkoiffkonjpoiaaW.PrintWords
set_option linter.unusedVariables false
set_option linter.unusedSimpArgs false

theorem find_f {l : List S40} (hs : srt l) (hl : l.length < 1000) (k : Int) : leaf_Leaf_find.f l k = some ((kcnt l k : Int), khas l k) := by
  unfold leaf_Leaf_find.f; rw [if_pos ⟨hs, by omega⟩]
theorem clone_f (l : List S40) (hl : l.length < 1000000) : leaf_Pair_99.f l = some l := by
  unfold leaf_Pair_99.f; rw [if_pos (by omega)]
/-- A key's value. -/
def valL (l : List S40) (k : Int) : Int := if khas l k = true then (rd_T40 l (kcnt l k : Int)).f1 else 0
theorem Get_f {l : List S40} (hs : srt l) (hl : l.length < 1000) (k : Int) : leaf_Leaf_Get.f l k = some (valL l k, khas l k) := by
  unfold leaf_Leaf_Get.f valL
  rw [find_f hs hl]
  simp only [Option.bind_some]
  obtain ⟨hc, ⟨hk, v, hv⟩ | ⟨hk, hv⟩⟩ := view hs k
  · have hlt : kcnt l k < l.length := by
      have := congrArg List.length hv; simp at this; omega
    rw [hk]
    simp only [if_true]
    rw [if_pos (by omega), if_pos (by omega)]
  · rw [hk]; simp
end Go.Proofs.Ytkoiffkonjpoiaa.Y
