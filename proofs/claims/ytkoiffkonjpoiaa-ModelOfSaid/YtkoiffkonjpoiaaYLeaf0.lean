/- Plain lemmas on lists of pairs whose keys rise, and what the leaf's functions come to as plain Lean functions. No memory in it. -/
import Derived.Test.YtkoiffkonjpoiaaQA1
import Derived.Test.YtkoiffkonjpoiaaYBase
namespace Go.Proofs.Ytkoiffkonjpoiaa.Y
open Go.RowKit Go.Proofs.Ytkoiffkonjpoiaa.Q Go.Proofs.YtkoiffkonjpoiaaW.PrintWords
set_option linter.unusedVariables false
set_option linter.unusedSimpArgs false

def lo (l : List S40) (k : Int) : List S40 := l.filter (fun p => decide (p.f0 < k))
def hi (l : List S40) (k : Int) : List S40 := l.filter (fun p => decide (k < p.f0))
def putL (l : List S40) (k v : Int) : List S40 := lo l k ++ ⟨k, v⟩ :: hi l k
/-- The pairs of some keys, each put in with its place and 100. -/
def risingL (raw : List Int) (i : Int) (acc : List S40) : List S40 := match raw with
  | [] => acc
  | a :: r => risingL r (i + 1) (putL acc a (i + 100))
/-- The pairs of some keys. -/
def rise (raw : List Int) : List S40 := risingL raw 0 []
end Go.Proofs.Ytkoiffkonjpoiaa.Y
