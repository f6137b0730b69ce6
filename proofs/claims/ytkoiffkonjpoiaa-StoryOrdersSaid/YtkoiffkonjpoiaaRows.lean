/-
  No cell of these rows narrows 'for every input' (looked for: loops, veiled, ifaces, maps, wideKeys, modest, calm, conditions, laid).
  DERIVED. THE GIVEN ROWS OF THIS SEAT. 35 by the template 'for every input the law returns true; each argument reads behind the call as it read before'; 0 by the template 'total and deterministic' (their statements: YtkoiffkonjpoiaaTotals.lean).
  GIVEN WITH THE SEED: the statements are not yours to turn. If you find one false, say at which input.
  Laid BY PROGRAM, IN A SANDBOX (cutbox-rows.mjs): the forced cells as the released guide's own fill.sh prints them over the translation b117a03006599c9a… (all of the seat's roots in one cut). By AI agents, Wed Nov 11 2026. No macro, syntax, notation, axiom, sorry.
-/
import Derived.Test.YtkoiffkonjpoiaaChecked
import GoSem.Claim
import GoSem.ClaimJoined
import GoSem.ClaimMapViews
import Derived.JoinedTies
import Derived.KernelRfl
namespace Go.Proofs.Ytkoiffkonjpoiaa
/- THE CELL 'sum', in the pinned program and in every row, IS THE sha256 OF THE DUMP (.gsa) THAT YtkoiffkonjpoiaaProg.lean LOADS. Nothing in Lean hashes anything: it is a label: what it is worth is what the hold of that sum in a sandbox is worth. -/
noncomputable def Try.pinned : Pinned := { name := "ytkoiffkonjpoiaa", sum := "b117a03006599c9a140a6b69278336ad083f7a877a649916dcaa07980e1ced56", checked := Try.checked }
namespace Rows
def none {H : Type} : Left H := { results := [], args := [] }

/-- 'boscagelaw03.InnerWays': WHATEVER THE INPUT: true; the input reads as it did. -/
def innerWaysSpec : ChangeSpec := { name := "innerWays", fn := fun _ => fun
  | [d1, d2] => { results := [.lit (.bool true)], args := [d1, d2] }
  | _ => none }
def innerWaysRow : OpenClaim := { program := "ytkoiffkonjpoiaa", sum := "b117a03006599c9a140a6b69278336ad083f7a877a649916dcaa07980e1ced56", func := "boscage/boscagelaw03.InnerWays", spec := "innerWays", plainKeys := false, apart := false }
def InnerWaysSaid : Prop := innerWaysRow.holds Try.pinned (OpenSpec.ofChange innerWaysSpec)

/-- ITS FALSE NEIGHBOUR: 'it returns false'. Refute it at one input. -/
def innerWaysWrong : ChangeSpec := { name := "innerWays", fn := fun _ => fun
  | [d1, d2] => { results := [.lit (.bool false)], args := [d1, d2] }
  | _ => none }
def InnerWaysWrongFalsely : Prop := innerWaysRow.holds Try.pinned (OpenSpec.ofChange innerWaysWrong)

/-- 'boscagelaw03.InnerAny': WHATEVER THE INPUT: true; the input reads as it did. -/
def innerAnySpec : ChangeSpec := { name := "innerAny", fn := fun _ => fun
  | [d1, d2] => { results := [.lit (.bool true)], args := [d1, d2] }
  | _ => none }
def innerAnyRow : OpenClaim := { program := "ytkoiffkonjpoiaa", sum := "b117a03006599c9a140a6b69278336ad083f7a877a649916dcaa07980e1ced56", func := "boscage/boscagelaw03.InnerAny", spec := "innerAny", plainKeys := false, apart := false }
def InnerAnySaid : Prop := innerAnyRow.holds Try.pinned (OpenSpec.ofChange innerAnySpec)

/-- ITS FALSE NEIGHBOUR: 'it returns false'. Refute it at one input. -/
def innerAnyWrong : ChangeSpec := { name := "innerAny", fn := fun _ => fun
  | [d1, d2] => { results := [.lit (.bool false)], args := [d1, d2] }
  | _ => none }
def InnerAnyWrongFalsely : Prop := innerAnyRow.holds Try.pinned (OpenSpec.ofChange innerAnyWrong)

/-- 'boscagelaw02.LeafGets': WHATEVER THE INPUT: true; the input reads as it did. -/
def leafGetsSpec : ChangeSpec := { name := "leafGets", fn := fun _ => fun
  | [d1, d2] => { results := [.lit (.bool true)], args := [d1, d2] }
  | _ => none }
def leafGetsRow : OpenClaim := { program := "ytkoiffkonjpoiaa", sum := "b117a03006599c9a140a6b69278336ad083f7a877a649916dcaa07980e1ced56", func := "boscage/boscagelaw02.LeafGets", spec := "leafGets", unfollowed := true, recurses := true, plainKeys := false, apart := false }
def LeafGetsSaid : Prop := leafGetsRow.holds Try.pinned (OpenSpec.ofChange leafGetsSpec)

/-- ITS FALSE NEIGHBOUR: 'it returns false'. Refute it at one input. -/
def leafGetsWrong : ChangeSpec := { name := "leafGets", fn := fun _ => fun
  | [d1, d2] => { results := [.lit (.bool false)], args := [d1, d2] }
  | _ => none }
def LeafGetsWrongFalsely : Prop := leafGetsRow.holds Try.pinned (OpenSpec.ofChange leafGetsWrong)

/-- 'boscagelaw02.LeafHalves': WHATEVER THE INPUT: true; the input reads as it did. -/
def leafHalvesSpec : ChangeSpec := { name := "leafHalves", fn := fun _ => fun
  | [d] => { results := [.lit (.bool true)], args := [d] }
  | _ => none }
def leafHalvesRow : OpenClaim := { program := "ytkoiffkonjpoiaa", sum := "b117a03006599c9a140a6b69278336ad083f7a877a649916dcaa07980e1ced56", func := "boscage/boscagelaw02.LeafHalves", spec := "leafHalves", unfollowed := true, recurses := true, plainKeys := false, apart := false }
def LeafHalvesSaid : Prop := leafHalvesRow.holds Try.pinned (OpenSpec.ofChange leafHalvesSpec)

/-- ITS FALSE NEIGHBOUR: 'it returns false'. Refute it at one input. -/
def leafHalvesWrong : ChangeSpec := { name := "leafHalves", fn := fun _ => fun
  | [d] => { results := [.lit (.bool false)], args := [d] }
  | _ => none }
def LeafHalvesWrongFalsely : Prop := leafHalvesRow.holds Try.pinned (OpenSpec.ofChange leafHalvesWrong)

/-- 'boscagelaw03.InnerWith': WHATEVER THE INPUT: true; the input reads as it did. -/
def innerWithSpec : ChangeSpec := { name := "innerWith", fn := fun _ => fun
  | [d1, d2, d3] => { results := [.lit (.bool true)], args := [d1, d2, d3] }
  | _ => none }
def innerWithRow : OpenClaim := { program := "ytkoiffkonjpoiaa", sum := "b117a03006599c9a140a6b69278336ad083f7a877a649916dcaa07980e1ced56", func := "boscage/boscagelaw03.InnerWith", spec := "innerWith", plainKeys := false, apart := false }
def InnerWithSaid : Prop := innerWithRow.holds Try.pinned (OpenSpec.ofChange innerWithSpec)

/-- ITS FALSE NEIGHBOUR: 'it returns false'. Refute it at one input. -/
def innerWithWrong : ChangeSpec := { name := "innerWith", fn := fun _ => fun
  | [d1, d2, d3] => { results := [.lit (.bool false)], args := [d1, d2, d3] }
  | _ => none }
def InnerWithWrongFalsely : Prop := innerWithRow.holds Try.pinned (OpenSpec.ofChange innerWithWrong)

/-- 'boscagelaw03.InnerParts': WHATEVER THE INPUT: true; the input reads as it did. -/
def innerPartsSpec : ChangeSpec := { name := "innerParts", fn := fun _ => fun
  | [d1, d2] => { results := [.lit (.bool true)], args := [d1, d2] }
  | _ => none }
def innerPartsRow : OpenClaim := { program := "ytkoiffkonjpoiaa", sum := "b117a03006599c9a140a6b69278336ad083f7a877a649916dcaa07980e1ced56", func := "boscage/boscagelaw03.InnerParts", spec := "innerParts", plainKeys := false, apart := false }
def InnerPartsSaid : Prop := innerPartsRow.holds Try.pinned (OpenSpec.ofChange innerPartsSpec)

/-- ITS FALSE NEIGHBOUR: 'it returns false'. Refute it at one input. -/
def innerPartsWrong : ChangeSpec := { name := "innerParts", fn := fun _ => fun
  | [d1, d2] => { results := [.lit (.bool false)], args := [d1, d2] }
  | _ => none }
def InnerPartsWrongFalsely : Prop := innerPartsRow.holds Try.pinned (OpenSpec.ofChange innerPartsWrong)

/-- 'boscagelaw03.InnerTurns': WHATEVER THE INPUT: true; the input reads as it did. -/
def innerTurnsSpec : ChangeSpec := { name := "innerTurns", fn := fun _ => fun
  | [d1, d2, d3, d4, d5] => { results := [.lit (.bool true)], args := [d1, d2, d3, d4, d5] }
  | _ => none }
def innerTurnsRow : OpenClaim := { program := "ytkoiffkonjpoiaa", sum := "b117a03006599c9a140a6b69278336ad083f7a877a649916dcaa07980e1ced56", func := "boscage/boscagelaw03.InnerTurns", spec := "innerTurns", plainKeys := false, apart := false }
def InnerTurnsSaid : Prop := innerTurnsRow.holds Try.pinned (OpenSpec.ofChange innerTurnsSpec)

/-- ITS FALSE NEIGHBOUR: 'it returns false'. Refute it at one input. -/
def innerTurnsWrong : ChangeSpec := { name := "innerTurns", fn := fun _ => fun
  | [d1, d2, d3, d4, d5] => { results := [.lit (.bool false)], args := [d1, d2, d3, d4, d5] }
  | _ => none }
def InnerTurnsWrongFalsely : Prop := innerTurnsRow.holds Try.pinned (OpenSpec.ofChange innerTurnsWrong)

/-- 'boscagelaw03.InnerJoins': WHATEVER THE INPUT: true; the input reads as it did. -/
def innerJoinsSpec : ChangeSpec := { name := "innerJoins", fn := fun _ => fun
  | [d1, d2, d3] => { results := [.lit (.bool true)], args := [d1, d2, d3] }
  | _ => none }
def innerJoinsRow : OpenClaim := { program := "ytkoiffkonjpoiaa", sum := "b117a03006599c9a140a6b69278336ad083f7a877a649916dcaa07980e1ced56", func := "boscage/boscagelaw03.InnerJoins", spec := "innerJoins", plainKeys := false, apart := false }
def InnerJoinsSaid : Prop := innerJoinsRow.holds Try.pinned (OpenSpec.ofChange innerJoinsSpec)

/-- ITS FALSE NEIGHBOUR: 'it returns false'. Refute it at one input. -/
def innerJoinsWrong : ChangeSpec := { name := "innerJoins", fn := fun _ => fun
  | [d1, d2, d3] => { results := [.lit (.bool false)], args := [d1, d2, d3] }
  | _ => none }
def InnerJoinsWrongFalsely : Prop := innerJoinsRow.holds Try.pinned (OpenSpec.ofChange innerJoinsWrong)

/-- 'boscagelaw02.LeafJoins': WHATEVER THE INPUT: true; the input reads as it did. -/
def leafJoinsSpec : ChangeSpec := { name := "leafJoins", fn := fun _ => fun
  | [d1, d2] => { results := [.lit (.bool true)], args := [d1, d2] }
  | _ => none }
def leafJoinsRow : OpenClaim := { program := "ytkoiffkonjpoiaa", sum := "b117a03006599c9a140a6b69278336ad083f7a877a649916dcaa07980e1ced56", func := "boscage/boscagelaw02.LeafJoins", spec := "leafJoins", unfollowed := true, recurses := true, plainKeys := false, apart := false }
def LeafJoinsSaid : Prop := leafJoinsRow.holds Try.pinned (OpenSpec.ofChange leafJoinsSpec)

/-- ITS FALSE NEIGHBOUR: 'it returns false'. Refute it at one input. -/
def leafJoinsWrong : ChangeSpec := { name := "leafJoins", fn := fun _ => fun
  | [d1, d2] => { results := [.lit (.bool false)], args := [d1, d2] }
  | _ => none }
def LeafJoinsWrongFalsely : Prop := leafJoinsRow.holds Try.pinned (OpenSpec.ofChange leafJoinsWrong)

/-- 'boscagelaw02.LeafRises': WHATEVER THE INPUT: true; the input reads as it did. -/
def leafRisesSpec : ChangeSpec := { name := "leafRises", fn := fun _ => fun
  | [d] => { results := [.lit (.bool true)], args := [d] }
  | _ => none }
def leafRisesRow : OpenClaim := { program := "ytkoiffkonjpoiaa", sum := "b117a03006599c9a140a6b69278336ad083f7a877a649916dcaa07980e1ced56", func := "boscage/boscagelaw02.LeafRises", spec := "leafRises", unfollowed := true, recurses := true, plainKeys := false, apart := false }
def LeafRisesSaid : Prop := leafRisesRow.holds Try.pinned (OpenSpec.ofChange leafRisesSpec)

/-- ITS FALSE NEIGHBOUR: 'it returns false'. Refute it at one input. -/
def leafRisesWrong : ChangeSpec := { name := "leafRises", fn := fun _ => fun
  | [d] => { results := [.lit (.bool false)], args := [d] }
  | _ => none }
def LeafRisesWrongFalsely : Prop := leafRisesRow.holds Try.pinned (OpenSpec.ofChange leafRisesWrong)

/-- 'boscagelaw02.LeafBetween': WHATEVER THE INPUT: true; the input reads as it did. -/
def leafBetweenSpec : ChangeSpec := { name := "leafBetween", fn := fun _ => fun
  | [d1, d2, d3] => { results := [.lit (.bool true)], args := [d1, d2, d3] }
  | _ => none }
def leafBetweenRow : OpenClaim := { program := "ytkoiffkonjpoiaa", sum := "b117a03006599c9a140a6b69278336ad083f7a877a649916dcaa07980e1ced56", func := "boscage/boscagelaw02.LeafBetween", spec := "leafBetween", unfollowed := true, recurses := true, plainKeys := false, apart := false }
def LeafBetweenSaid : Prop := leafBetweenRow.holds Try.pinned (OpenSpec.ofChange leafBetweenSpec)

/-- ITS FALSE NEIGHBOUR: 'it returns false'. Refute it at one input. -/
def leafBetweenWrong : ChangeSpec := { name := "leafBetween", fn := fun _ => fun
  | [d1, d2, d3] => { results := [.lit (.bool false)], args := [d1, d2, d3] }
  | _ => none }
def LeafBetweenWrongFalsely : Prop := leafBetweenRow.holds Try.pinned (OpenSpec.ofChange leafBetweenWrong)

/-- 'boscagelaw02.LeafCuts': WHATEVER THE INPUT: true; the input reads as it did. -/
def leafCutsSpec : ChangeSpec := { name := "leafCuts", fn := fun _ => fun
  | [d1, d2] => { results := [.lit (.bool true)], args := [d1, d2] }
  | _ => none }
def leafCutsRow : OpenClaim := { program := "ytkoiffkonjpoiaa", sum := "b117a03006599c9a140a6b69278336ad083f7a877a649916dcaa07980e1ced56", func := "boscage/boscagelaw02.LeafCuts", spec := "leafCuts", unfollowed := true, recurses := true, plainKeys := false, apart := false }
def LeafCutsSaid : Prop := leafCutsRow.holds Try.pinned (OpenSpec.ofChange leafCutsSpec)

/-- ITS FALSE NEIGHBOUR: 'it returns false'. Refute it at one input. -/
def leafCutsWrong : ChangeSpec := { name := "leafCuts", fn := fun _ => fun
  | [d1, d2] => { results := [.lit (.bool false)], args := [d1, d2] }
  | _ => none }
def LeafCutsWrongFalsely : Prop := leafCutsRow.holds Try.pinned (OpenSpec.ofChange leafCutsWrong)

/-- 'boscagelaw02.LeafPuts': WHATEVER THE INPUT: true; the input reads as it did. -/
def leafPutsSpec : ChangeSpec := { name := "leafPuts", fn := fun _ => fun
  | [d1, d2, d3] => { results := [.lit (.bool true)], args := [d1, d2, d3] }
  | _ => none }
def leafPutsRow : OpenClaim := { program := "ytkoiffkonjpoiaa", sum := "b117a03006599c9a140a6b69278336ad083f7a877a649916dcaa07980e1ced56", func := "boscage/boscagelaw02.LeafPuts", spec := "leafPuts", inPlace := ["slices.overlaps[boscage/leaf.Pair]"], unfollowed := true, recurses := true, plainKeys := false, apart := false }
def LeafPutsSaid : Prop := leafPutsRow.holds Try.pinned (OpenSpec.ofChange leafPutsSpec)

/-- ITS FALSE NEIGHBOUR: 'it returns false'. Refute it at one input. -/
def leafPutsWrong : ChangeSpec := { name := "leafPuts", fn := fun _ => fun
  | [d1, d2, d3] => { results := [.lit (.bool false)], args := [d1, d2, d3] }
  | _ => none }
def LeafPutsWrongFalsely : Prop := leafPutsRow.holds Try.pinned (OpenSpec.ofChange leafPutsWrong)

/-- 'boscagelaw02.LeafUndoes': WHATEVER THE INPUT: true; the input reads as it did. -/
def leafUndoesSpec : ChangeSpec := { name := "leafUndoes", fn := fun _ => fun
  | [d1, d2, d3] => { results := [.lit (.bool true)], args := [d1, d2, d3] }
  | _ => none }
def leafUndoesRow : OpenClaim := { program := "ytkoiffkonjpoiaa", sum := "b117a03006599c9a140a6b69278336ad083f7a877a649916dcaa07980e1ced56", func := "boscage/boscagelaw02.LeafUndoes", spec := "leafUndoes", inPlace := ["slices.overlaps[boscage/leaf.Pair]"], unfollowed := true, recurses := true, plainKeys := false, apart := false }
def LeafUndoesSaid : Prop := leafUndoesRow.holds Try.pinned (OpenSpec.ofChange leafUndoesSpec)

/-- ITS FALSE NEIGHBOUR: 'it returns false'. Refute it at one input. -/
def leafUndoesWrong : ChangeSpec := { name := "leafUndoes", fn := fun _ => fun
  | [d1, d2, d3] => { results := [.lit (.bool false)], args := [d1, d2, d3] }
  | _ => none }
def LeafUndoesWrongFalsely : Prop := leafUndoesRow.holds Try.pinned (OpenSpec.ofChange leafUndoesWrong)

/-- 'boscagelaw02.LeafChains': WHATEVER THE INPUT: true; the input reads as it did. -/
def leafChainsSpec : ChangeSpec := { name := "leafChains", fn := fun _ => fun
  | [d1, d2] => { results := [.lit (.bool true)], args := [d1, d2] }
  | _ => none }
def leafChainsRow : OpenClaim := { program := "ytkoiffkonjpoiaa", sum := "b117a03006599c9a140a6b69278336ad083f7a877a649916dcaa07980e1ced56", func := "boscage/boscagelaw02.LeafChains", spec := "leafChains", inPlace := ["slices.overlaps[boscage/leaf.Pair]"], unfollowed := true, recurses := true, plainKeys := false, apart := false }
def LeafChainsSaid : Prop := leafChainsRow.holds Try.pinned (OpenSpec.ofChange leafChainsSpec)

/-- ITS FALSE NEIGHBOUR: 'it returns false'. Refute it at one input. -/
def leafChainsWrong : ChangeSpec := { name := "leafChains", fn := fun _ => fun
  | [d1, d2] => { results := [.lit (.bool false)], args := [d1, d2] }
  | _ => none }
def LeafChainsWrongFalsely : Prop := leafChainsRow.holds Try.pinned (OpenSpec.ofChange leafChainsWrong)

/-- 'boscagelaw02.LeafKeeps': WHATEVER THE INPUT: true; the input reads as it did. -/
def leafKeepsSpec : ChangeSpec := { name := "leafKeeps", fn := fun _ => fun
  | [d1, d2, d3] => { results := [.lit (.bool true)], args := [d1, d2, d3] }
  | _ => none }
def leafKeepsRow : OpenClaim := { program := "ytkoiffkonjpoiaa", sum := "b117a03006599c9a140a6b69278336ad083f7a877a649916dcaa07980e1ced56", func := "boscage/boscagelaw02.LeafKeeps", spec := "leafKeeps", inPlace := ["slices.overlaps[boscage/leaf.Pair]"], unfollowed := true, recurses := true, plainKeys := false, apart := false }
def LeafKeepsSaid : Prop := leafKeepsRow.holds Try.pinned (OpenSpec.ofChange leafKeepsSpec)

/-- ITS FALSE NEIGHBOUR: 'it returns false'. Refute it at one input. -/
def leafKeepsWrong : ChangeSpec := { name := "leafKeeps", fn := fun _ => fun
  | [d1, d2, d3] => { results := [.lit (.bool false)], args := [d1, d2, d3] }
  | _ => none }
def LeafKeepsWrongFalsely : Prop := leafKeepsRow.holds Try.pinned (OpenSpec.ofChange leafKeepsWrong)

/-- 'boscagelaw18.ModelSpans': WHATEVER THE INPUT: true; the input reads as it did. -/
def modelSpansSpec : ChangeSpec := { name := "modelSpans", fn := fun _ => fun
  | [d1, d2] => { results := [.lit (.bool true)], args := [d1, d2] }
  | _ => none }
def modelSpansRow : OpenClaim := { program := "ytkoiffkonjpoiaa", sum := "b117a03006599c9a140a6b69278336ad083f7a877a649916dcaa07980e1ced56", func := "boscage/boscagelaw18.ModelSpans", spec := "modelSpans", inPlace := ["slices.overlaps[boscage/leaf.Pair]"], unfollowed := true, recurses := true, plainKeys := false, apart := false }
def ModelSpansSaid : Prop := modelSpansRow.holds Try.pinned (OpenSpec.ofChange modelSpansSpec)

/-- ITS FALSE NEIGHBOUR: 'it returns false'. Refute it at one input. -/
def modelSpansWrong : ChangeSpec := { name := "modelSpans", fn := fun _ => fun
  | [d1, d2] => { results := [.lit (.bool false)], args := [d1, d2] }
  | _ => none }
def ModelSpansWrongFalsely : Prop := modelSpansRow.holds Try.pinned (OpenSpec.ofChange modelSpansWrong)

/-- 'boscagelaw18.ModelOf': WHATEVER THE INPUT: true; the input reads as it did. -/
def modelOfSpec : ChangeSpec := { name := "modelOf", fn := fun _ => fun
  | [d1, d2] => { results := [.lit (.bool true)], args := [d1, d2] }
  | _ => none }
def modelOfRow : OpenClaim := { program := "ytkoiffkonjpoiaa", sum := "b117a03006599c9a140a6b69278336ad083f7a877a649916dcaa07980e1ced56", func := "boscage/boscagelaw18.ModelOf", spec := "modelOf", inPlace := ["slices.overlaps[boscage/leaf.Pair]"], unfollowed := true, recurses := true, plainKeys := false, apart := false }
def ModelOfSaid : Prop := modelOfRow.holds Try.pinned (OpenSpec.ofChange modelOfSpec)

/-- ITS FALSE NEIGHBOUR: 'it returns false'. Refute it at one input. -/
def modelOfWrong : ChangeSpec := { name := "modelOf", fn := fun _ => fun
  | [d1, d2] => { results := [.lit (.bool false)], args := [d1, d2] }
  | _ => none }
def ModelOfWrongFalsely : Prop := modelOfRow.holds Try.pinned (OpenSpec.ofChange modelOfWrong)

/-- 'boscagelaw18.ModelApplies': WHATEVER THE INPUT: true; the input reads as it did. -/
def modelAppliesSpec : ChangeSpec := { name := "modelApplies", fn := fun _ => fun
  | [d1, d2] => { results := [.lit (.bool true)], args := [d1, d2] }
  | _ => none }
def modelAppliesRow : OpenClaim := { program := "ytkoiffkonjpoiaa", sum := "b117a03006599c9a140a6b69278336ad083f7a877a649916dcaa07980e1ced56", func := "boscage/boscagelaw18.ModelApplies", spec := "modelApplies", inPlace := ["slices.overlaps[boscage/leaf.Pair]"], unfollowed := true, recurses := true, plainKeys := false, apart := false }
def ModelAppliesSaid : Prop := modelAppliesRow.holds Try.pinned (OpenSpec.ofChange modelAppliesSpec)

/-- ITS FALSE NEIGHBOUR: 'it returns false'. Refute it at one input. -/
def modelAppliesWrong : ChangeSpec := { name := "modelApplies", fn := fun _ => fun
  | [d1, d2] => { results := [.lit (.bool false)], args := [d1, d2] }
  | _ => none }
def ModelAppliesWrongFalsely : Prop := modelAppliesRow.holds Try.pinned (OpenSpec.ofChange modelAppliesWrong)

/-- 'boscagelaw18.ModelChains': WHATEVER THE INPUT: true; the input reads as it did. -/
def modelChainsSpec : ChangeSpec := { name := "modelChains", fn := fun _ => fun
  | [d1, d2] => { results := [.lit (.bool true)], args := [d1, d2] }
  | _ => none }
def modelChainsRow : OpenClaim := { program := "ytkoiffkonjpoiaa", sum := "b117a03006599c9a140a6b69278336ad083f7a877a649916dcaa07980e1ced56", func := "boscage/boscagelaw18.ModelChains", spec := "modelChains", inPlace := ["slices.overlaps[boscage/leaf.Pair]"], unfollowed := true, recurses := true, plainKeys := false, apart := false }
def ModelChainsSaid : Prop := modelChainsRow.holds Try.pinned (OpenSpec.ofChange modelChainsSpec)

/-- ITS FALSE NEIGHBOUR: 'it returns false'. Refute it at one input. -/
def modelChainsWrong : ChangeSpec := { name := "modelChains", fn := fun _ => fun
  | [d1, d2] => { results := [.lit (.bool false)], args := [d1, d2] }
  | _ => none }
def ModelChainsWrongFalsely : Prop := modelChainsRow.holds Try.pinned (OpenSpec.ofChange modelChainsWrong)

/-- 'boscagelaw18.ModelAgree': WHATEVER THE INPUT: true; the input reads as it did. -/
def modelAgreeSpec : ChangeSpec := { name := "modelAgree", fn := fun _ => fun
  | [d1, d2] => { results := [.lit (.bool true)], args := [d1, d2] }
  | _ => none }
def modelAgreeRow : OpenClaim := { program := "ytkoiffkonjpoiaa", sum := "b117a03006599c9a140a6b69278336ad083f7a877a649916dcaa07980e1ced56", func := "boscage/boscagelaw18.ModelAgree", spec := "modelAgree", inPlace := ["slices.overlaps[boscage/leaf.Pair]"], unfollowed := true, recurses := true, plainKeys := false, apart := false }
def ModelAgreeSaid : Prop := modelAgreeRow.holds Try.pinned (OpenSpec.ofChange modelAgreeSpec)

/-- ITS FALSE NEIGHBOUR: 'it returns false'. Refute it at one input. -/
def modelAgreeWrong : ChangeSpec := { name := "modelAgree", fn := fun _ => fun
  | [d1, d2] => { results := [.lit (.bool false)], args := [d1, d2] }
  | _ => none }
def ModelAgreeWrongFalsely : Prop := modelAgreeRow.holds Try.pinned (OpenSpec.ofChange modelAgreeWrong)

/-- 'boscagelaw03.InnerAbsorbs': WHATEVER THE INPUT: true; the input reads as it did. -/
def innerAbsorbsSpec : ChangeSpec := { name := "innerAbsorbs", fn := fun _ => fun
  | [d1, d2, d3] => { results := [.lit (.bool true)], args := [d1, d2, d3] }
  | _ => none }
def innerAbsorbsRow : OpenClaim := { program := "ytkoiffkonjpoiaa", sum := "b117a03006599c9a140a6b69278336ad083f7a877a649916dcaa07980e1ced56", func := "boscage/boscagelaw03.InnerAbsorbs", spec := "innerAbsorbs", inPlace := ["slices.overlaps[boscage/ref.Ref]", "slices.overlaps[int64]"], plainKeys := false, apart := false }
def InnerAbsorbsSaid : Prop := innerAbsorbsRow.holds Try.pinned (OpenSpec.ofChange innerAbsorbsSpec)

/-- ITS FALSE NEIGHBOUR: 'it returns false'. Refute it at one input. -/
def innerAbsorbsWrong : ChangeSpec := { name := "innerAbsorbs", fn := fun _ => fun
  | [d1, d2, d3] => { results := [.lit (.bool false)], args := [d1, d2, d3] }
  | _ => none }
def InnerAbsorbsWrongFalsely : Prop := innerAbsorbsRow.holds Try.pinned (OpenSpec.ofChange innerAbsorbsWrong)

/-- 'boscagelaw03.InnerRoutes': WHATEVER THE INPUT: true; the input reads as it did. -/
def innerRoutesSpec : ChangeSpec := { name := "innerRoutes", fn := fun _ => fun
  | [d1, d2, d3, d4] => { results := [.lit (.bool true)], args := [d1, d2, d3, d4] }
  | _ => none }
def innerRoutesRow : OpenClaim := { program := "ytkoiffkonjpoiaa", sum := "b117a03006599c9a140a6b69278336ad083f7a877a649916dcaa07980e1ced56", func := "boscage/boscagelaw03.InnerRoutes", spec := "innerRoutes", inPlace := ["slices.overlaps[boscage/ref.Ref]", "slices.overlaps[int64]"], plainKeys := false, apart := false }
def InnerRoutesSaid : Prop := innerRoutesRow.holds Try.pinned (OpenSpec.ofChange innerRoutesSpec)

/-- ITS FALSE NEIGHBOUR: 'it returns false'. Refute it at one input. -/
def innerRoutesWrong : ChangeSpec := { name := "innerRoutes", fn := fun _ => fun
  | [d1, d2, d3, d4] => { results := [.lit (.bool false)], args := [d1, d2, d3, d4] }
  | _ => none }
def InnerRoutesWrongFalsely : Prop := innerRoutesRow.holds Try.pinned (OpenSpec.ofChange innerRoutesWrong)

/-- 'boscagelaw18.ModelNumbers': WHATEVER THE INPUT: true; the input reads as it did. -/
def modelNumbersSpec : ChangeSpec := { name := "modelNumbers", fn := fun _ => fun
  | [d] => { results := [.lit (.bool true)], args := [d] }
  | _ => none }
def modelNumbersRow : OpenClaim := { program := "ytkoiffkonjpoiaa", sum := "b117a03006599c9a140a6b69278336ad083f7a877a649916dcaa07980e1ced56", func := "boscage/boscagelaw18.ModelNumbers", spec := "modelNumbers", inPlace := ["slices.overlaps[boscage/leaf.Pair]"], unfollowed := true, recurses := true, plainKeys := false, apart := false }
def ModelNumbersSaid : Prop := modelNumbersRow.holds Try.pinned (OpenSpec.ofChange modelNumbersSpec)

/-- ITS FALSE NEIGHBOUR: 'it returns false'. Refute it at one input. -/
def modelNumbersWrong : ChangeSpec := { name := "modelNumbers", fn := fun _ => fun
  | [d] => { results := [.lit (.bool false)], args := [d] }
  | _ => none }
def ModelNumbersWrongFalsely : Prop := modelNumbersRow.holds Try.pinned (OpenSpec.ofChange modelNumbersWrong)

/-- 'boscagelaw18.ModelSame': WHATEVER THE INPUT: true; the input reads as it did. -/
def modelSameSpec : ChangeSpec := { name := "modelSame", fn := fun _ => fun
  | [d1, d2, d3] => { results := [.lit (.bool true)], args := [d1, d2, d3] }
  | _ => none }
def modelSameRow : OpenClaim := { program := "ytkoiffkonjpoiaa", sum := "b117a03006599c9a140a6b69278336ad083f7a877a649916dcaa07980e1ced56", func := "boscage/boscagelaw18.ModelSame", spec := "modelSame", inPlace := ["slices.overlaps[boscage/leaf.Pair]"], unfollowed := true, recurses := true, plainKeys := false, apart := false }
def ModelSameSaid : Prop := modelSameRow.holds Try.pinned (OpenSpec.ofChange modelSameSpec)

/-- ITS FALSE NEIGHBOUR: 'it returns false'. Refute it at one input. -/
def modelSameWrong : ChangeSpec := { name := "modelSame", fn := fun _ => fun
  | [d1, d2, d3] => { results := [.lit (.bool false)], args := [d1, d2, d3] }
  | _ => none }
def ModelSameWrongFalsely : Prop := modelSameRow.holds Try.pinned (OpenSpec.ofChange modelSameWrong)

/-- 'boscagelaw03.InnerMerges': WHATEVER THE INPUT: true; the input reads as it did. -/
def innerMergesSpec : ChangeSpec := { name := "innerMerges", fn := fun _ => fun
  | [d1, d2, d3] => { results := [.lit (.bool true)], args := [d1, d2, d3] }
  | _ => none }
def innerMergesRow : OpenClaim := { program := "ytkoiffkonjpoiaa", sum := "b117a03006599c9a140a6b69278336ad083f7a877a649916dcaa07980e1ced56", func := "boscage/boscagelaw03.InnerMerges", spec := "innerMerges", inPlace := ["slices.overlaps[boscage/ref.Ref]"], plainKeys := false, apart := false }
def InnerMergesSaid : Prop := innerMergesRow.holds Try.pinned (OpenSpec.ofChange innerMergesSpec)

/-- ITS FALSE NEIGHBOUR: 'it returns false'. Refute it at one input. -/
def innerMergesWrong : ChangeSpec := { name := "innerMerges", fn := fun _ => fun
  | [d1, d2, d3] => { results := [.lit (.bool false)], args := [d1, d2, d3] }
  | _ => none }
def InnerMergesWrongFalsely : Prop := innerMergesRow.holds Try.pinned (OpenSpec.ofChange innerMergesWrong)

/-- 'boscagelaw18.ModelMakes': WHATEVER THE INPUT: true; the input reads as it did. -/
def modelMakesSpec : ChangeSpec := { name := "modelMakes", fn := fun _ => fun
  | [d1, d2] => { results := [.lit (.bool true)], args := [d1, d2] }
  | _ => none }
def modelMakesRow : OpenClaim := { program := "ytkoiffkonjpoiaa", sum := "b117a03006599c9a140a6b69278336ad083f7a877a649916dcaa07980e1ced56", func := "boscage/boscagelaw18.ModelMakes", spec := "modelMakes", inPlace := ["slices.overlaps[boscage/leaf.Pair]"], unfollowed := true, recurses := true, plainKeys := false, apart := false }
def ModelMakesSaid : Prop := modelMakesRow.holds Try.pinned (OpenSpec.ofChange modelMakesSpec)

/-- ITS FALSE NEIGHBOUR: 'it returns false'. Refute it at one input. -/
def modelMakesWrong : ChangeSpec := { name := "modelMakes", fn := fun _ => fun
  | [d1, d2] => { results := [.lit (.bool false)], args := [d1, d2] }
  | _ => none }
def ModelMakesWrongFalsely : Prop := modelMakesRow.holds Try.pinned (OpenSpec.ofChange modelMakesWrong)

/-- 'boscagelaw03.InnerKeeps': WHATEVER THE INPUT: true; the input reads as it did. -/
def innerKeepsSpec : ChangeSpec := { name := "innerKeeps", fn := fun _ => fun
  | [d1, d2, d3] => { results := [.lit (.bool true)], args := [d1, d2, d3] }
  | _ => none }
def innerKeepsRow : OpenClaim := { program := "ytkoiffkonjpoiaa", sum := "b117a03006599c9a140a6b69278336ad083f7a877a649916dcaa07980e1ced56", func := "boscage/boscagelaw03.InnerKeeps", spec := "innerKeeps", inPlace := ["slices.overlaps[boscage/ref.Ref]", "slices.overlaps[int64]"], plainKeys := false, apart := false }
def InnerKeepsSaid : Prop := innerKeepsRow.holds Try.pinned (OpenSpec.ofChange innerKeepsSpec)

/-- ITS FALSE NEIGHBOUR: 'it returns false'. Refute it at one input. -/
def innerKeepsWrong : ChangeSpec := { name := "innerKeeps", fn := fun _ => fun
  | [d1, d2, d3] => { results := [.lit (.bool false)], args := [d1, d2, d3] }
  | _ => none }
def InnerKeepsWrongFalsely : Prop := innerKeepsRow.holds Try.pinned (OpenSpec.ofChange innerKeepsWrong)

/-- 'boscagelaw22.StoryLegal': WHATEVER THE INPUT: true; the input reads as it did. -/
def storyLegalSpec : ChangeSpec := { name := "storyLegal", fn := fun _ => fun
  | [d1, d2, d3, d4, d5, d6] => { results := [.lit (.bool true)], args := [d1, d2, d3, d4, d5, d6] }
  | _ => none }
def storyLegalRow : OpenClaim := { program := "ytkoiffkonjpoiaa", sum := "b117a03006599c9a140a6b69278336ad083f7a877a649916dcaa07980e1ced56", func := "boscage/boscagelaw22.StoryLegal", spec := "storyLegal", inPlace := ["slices.overlaps[boscage/leaf.Pair]"], unfollowed := true, recurses := true, plainKeys := false, apart := false }
def StoryLegalSaid : Prop := storyLegalRow.holds Try.pinned (OpenSpec.ofChange storyLegalSpec)

/-- ITS FALSE NEIGHBOUR: 'it returns false'. Refute it at one input. -/
def storyLegalWrong : ChangeSpec := { name := "storyLegal", fn := fun _ => fun
  | [d1, d2, d3, d4, d5, d6] => { results := [.lit (.bool false)], args := [d1, d2, d3, d4, d5, d6] }
  | _ => none }
def StoryLegalWrongFalsely : Prop := storyLegalRow.holds Try.pinned (OpenSpec.ofChange storyLegalWrong)

/-- 'boscagelaw22.StoryOrders': WHATEVER THE INPUT: true; the input reads as it did. -/
def storyOrdersSpec : ChangeSpec := { name := "storyOrders", fn := fun _ => fun
  | [d1, d2, d3, d4, d5] => { results := [.lit (.bool true)], args := [d1, d2, d3, d4, d5] }
  | _ => none }
def storyOrdersRow : OpenClaim := { program := "ytkoiffkonjpoiaa", sum := "b117a03006599c9a140a6b69278336ad083f7a877a649916dcaa07980e1ced56", func := "boscage/boscagelaw22.StoryOrders", spec := "storyOrders", inPlace := ["slices.overlaps[boscage/leaf.Pair]"], unfollowed := true, recurses := true, plainKeys := false, apart := false }
def StoryOrdersSaid : Prop := storyOrdersRow.holds Try.pinned (OpenSpec.ofChange storyOrdersSpec)

/-- ITS FALSE NEIGHBOUR: 'it returns false'. Refute it at one input. -/
def storyOrdersWrong : ChangeSpec := { name := "storyOrders", fn := fun _ => fun
  | [d1, d2, d3, d4, d5] => { results := [.lit (.bool false)], args := [d1, d2, d3, d4, d5] }
  | _ => none }
def StoryOrdersWrongFalsely : Prop := storyOrdersRow.holds Try.pinned (OpenSpec.ofChange storyOrdersWrong)

/-- 'boscagelaw22.StoryFinds': WHATEVER THE INPUT: true; the input reads as it did. -/
def storyFindsSpec : ChangeSpec := { name := "storyFinds", fn := fun _ => fun
  | [d1, d2, d3] => { results := [.lit (.bool true)], args := [d1, d2, d3] }
  | _ => none }
def storyFindsRow : OpenClaim := { program := "ytkoiffkonjpoiaa", sum := "b117a03006599c9a140a6b69278336ad083f7a877a649916dcaa07980e1ced56", func := "boscage/boscagelaw22.StoryFinds", spec := "storyFinds", inPlace := ["slices.overlaps[boscage/leaf.Pair]"], unfollowed := true, recurses := true, plainKeys := false, apart := false }
def StoryFindsSaid : Prop := storyFindsRow.holds Try.pinned (OpenSpec.ofChange storyFindsSpec)

/-- ITS FALSE NEIGHBOUR: 'it returns false'. Refute it at one input. -/
def storyFindsWrong : ChangeSpec := { name := "storyFinds", fn := fun _ => fun
  | [d1, d2, d3] => { results := [.lit (.bool false)], args := [d1, d2, d3] }
  | _ => none }
def StoryFindsWrongFalsely : Prop := storyFindsRow.holds Try.pinned (OpenSpec.ofChange storyFindsWrong)

/-- 'boscagelaw22.StoryOne': WHATEVER THE INPUT: true; the input reads as it did. -/
def storyOneSpec : ChangeSpec := { name := "storyOne", fn := fun _ => fun
  | [d1, d2, d3, d4] => { results := [.lit (.bool true)], args := [d1, d2, d3, d4] }
  | _ => none }
def storyOneRow : OpenClaim := { program := "ytkoiffkonjpoiaa", sum := "b117a03006599c9a140a6b69278336ad083f7a877a649916dcaa07980e1ced56", func := "boscage/boscagelaw22.StoryOne", spec := "storyOne", inPlace := ["slices.overlaps[boscage/leaf.Pair]"], unfollowed := true, recurses := true, plainKeys := false, apart := false }
def StoryOneSaid : Prop := storyOneRow.holds Try.pinned (OpenSpec.ofChange storyOneSpec)

/-- ITS FALSE NEIGHBOUR: 'it returns false'. Refute it at one input. -/
def storyOneWrong : ChangeSpec := { name := "storyOne", fn := fun _ => fun
  | [d1, d2, d3, d4] => { results := [.lit (.bool false)], args := [d1, d2, d3, d4] }
  | _ => none }
def StoryOneWrongFalsely : Prop := storyOneRow.holds Try.pinned (OpenSpec.ofChange storyOneWrong)

/-- 'boscagelaw22.StoryWider': WHATEVER THE INPUT: true; the input reads as it did. -/
def storyWiderSpec : ChangeSpec := { name := "storyWider", fn := fun _ => fun
  | [d1, d2, d3, d4, d5, d6] => { results := [.lit (.bool true)], args := [d1, d2, d3, d4, d5, d6] }
  | _ => none }
def storyWiderRow : OpenClaim := { program := "ytkoiffkonjpoiaa", sum := "b117a03006599c9a140a6b69278336ad083f7a877a649916dcaa07980e1ced56", func := "boscage/boscagelaw22.StoryWider", spec := "storyWider", inPlace := ["slices.overlaps[boscage/leaf.Pair]"], unfollowed := true, recurses := true, plainKeys := false, apart := false }
def StoryWiderSaid : Prop := storyWiderRow.holds Try.pinned (OpenSpec.ofChange storyWiderSpec)

/-- ITS FALSE NEIGHBOUR: 'it returns false'. Refute it at one input. -/
def storyWiderWrong : ChangeSpec := { name := "storyWider", fn := fun _ => fun
  | [d1, d2, d3, d4, d5, d6] => { results := [.lit (.bool false)], args := [d1, d2, d3, d4, d5, d6] }
  | _ => none }
def StoryWiderWrongFalsely : Prop := storyWiderRow.holds Try.pinned (OpenSpec.ofChange storyWiderWrong)

/-- 'boscagelaw22.StoryNone': WHATEVER THE INPUT: true; the input reads as it did. -/
def storyNoneSpec : ChangeSpec := { name := "storyNone", fn := fun _ => fun
  | [d1, d2, d3, d4, d5, d6, d7] => { results := [.lit (.bool true)], args := [d1, d2, d3, d4, d5, d6, d7] }
  | _ => none }
def storyNoneRow : OpenClaim := { program := "ytkoiffkonjpoiaa", sum := "b117a03006599c9a140a6b69278336ad083f7a877a649916dcaa07980e1ced56", func := "boscage/boscagelaw22.StoryNone", spec := "storyNone", inPlace := ["slices.overlaps[boscage/leaf.Pair]"], unfollowed := true, recurses := true, plainKeys := false, apart := false }
def StoryNoneSaid : Prop := storyNoneRow.holds Try.pinned (OpenSpec.ofChange storyNoneSpec)

/-- ITS FALSE NEIGHBOUR: 'it returns false'. Refute it at one input. -/
def storyNoneWrong : ChangeSpec := { name := "storyNone", fn := fun _ => fun
  | [d1, d2, d3, d4, d5, d6, d7] => { results := [.lit (.bool false)], args := [d1, d2, d3, d4, d5, d6, d7] }
  | _ => none }
def StoryNoneWrongFalsely : Prop := storyNoneRow.holds Try.pinned (OpenSpec.ofChange storyNoneWrong)

/-- 'boscagelaw22.StoryMost': WHATEVER THE INPUT: true; the input reads as it did. -/
def storyMostSpec : ChangeSpec := { name := "storyMost", fn := fun _ => fun
  | [d1, d2] => { results := [.lit (.bool true)], args := [d1, d2] }
  | _ => none }
def storyMostRow : OpenClaim := { program := "ytkoiffkonjpoiaa", sum := "b117a03006599c9a140a6b69278336ad083f7a877a649916dcaa07980e1ced56", func := "boscage/boscagelaw22.StoryMost", spec := "storyMost", inPlace := ["slices.overlaps[boscage/leaf.Pair]"], unfollowed := true, recurses := true, plainKeys := false, apart := false }
def StoryMostSaid : Prop := storyMostRow.holds Try.pinned (OpenSpec.ofChange storyMostSpec)

/-- ITS FALSE NEIGHBOUR: 'it returns false'. Refute it at one input. -/
def storyMostWrong : ChangeSpec := { name := "storyMost", fn := fun _ => fun
  | [d1, d2] => { results := [.lit (.bool false)], args := [d1, d2] }
  | _ => none }
def StoryMostWrongFalsely : Prop := storyMostRow.holds Try.pinned (OpenSpec.ofChange storyMostWrong)

/- THE SECOND FORM. 'bulk': how many values and letters a reading holds, each counted each time it is reached (what is shared counts as often as it is met; a slice's spare places count too). A statement '..UptoSaid' is the law's where the arguments, and the package variables that the reading takes, are together of bulk at most 1048576: NARROWER than '..Said'. Prove '..Said' where nothing that the law and all that it calls make is longer than what came in: it says more and counts as full. Else prove '..UptoSaid'. A law counts once. -/
mutual
def uptoBulk {H : Type} : DataW H → Nat
  | .lit (.string bytes) => bytes.length + 1
  | .lit _ => 1
  | .nil => 1
  | .ptr d => uptoBulk d + 1
  | .slice elems spare => uptoBulkAll elems + uptoBulkAll spare + 1
  | .agg parts => uptoBulkAll parts + 1
  | .iface _ d => uptoBulk d + 1
  | .map entries => uptoBulkEntries entries + 1
  | .held _ => 1
def uptoBulkAll {H : Type} : List (DataW H) → Nat
  | [] => 0
  | d :: r => uptoBulk d + uptoBulkAll r
def uptoBulkEntries {H : Type} : List (Lit × DataW H) → Nat
  | [] => 0
  | x :: r => uptoBulkEntry x + uptoBulkEntries r
def uptoBulkEntry {H : Type} : Lit × DataW H → Nat
  | (.string bytes, d) => bytes.length + uptoBulk d + 1
  | (_, d) => uptoBulk d + 1
 end
def uptoSmall : (H : Type) → List (DataW H) → Bool := fun _ ds => decide (uptoBulkAll ds ≤ 1048576)
def OpenSpec.upto (s : _root_.Go.ChangeSpec) : _root_.Go.OpenSpec := { _root_.Go.OpenSpec.ofChange s with cond := some uptoSmall }

/-- 'boscagelaw03.InnerWays', WHERE WHAT IT READS IS OF BULK AT MOST 1048576: true; the input reads as it did. -/
def innerWaysUptoRow : OpenClaim := { program := "ytkoiffkonjpoiaa", sum := "b117a03006599c9a140a6b69278336ad083f7a877a649916dcaa07980e1ced56", func := "boscage/boscagelaw03.InnerWays", spec := "innerWays", plainKeys := false, apart := false, narrowed := true }
def InnerWaysUptoSaid : Prop := innerWaysUptoRow.holds Try.pinned (OpenSpec.upto innerWaysSpec)

/-- 'boscagelaw03.InnerAny', WHERE WHAT IT READS IS OF BULK AT MOST 1048576: true; the input reads as it did. -/
def innerAnyUptoRow : OpenClaim := { program := "ytkoiffkonjpoiaa", sum := "b117a03006599c9a140a6b69278336ad083f7a877a649916dcaa07980e1ced56", func := "boscage/boscagelaw03.InnerAny", spec := "innerAny", plainKeys := false, apart := false, narrowed := true }
def InnerAnyUptoSaid : Prop := innerAnyUptoRow.holds Try.pinned (OpenSpec.upto innerAnySpec)

/-- 'boscagelaw02.LeafGets', WHERE WHAT IT READS IS OF BULK AT MOST 1048576: true; the input reads as it did. -/
def leafGetsUptoRow : OpenClaim := { program := "ytkoiffkonjpoiaa", sum := "b117a03006599c9a140a6b69278336ad083f7a877a649916dcaa07980e1ced56", func := "boscage/boscagelaw02.LeafGets", spec := "leafGets", unfollowed := true, recurses := true, plainKeys := false, apart := false, narrowed := true }
def LeafGetsUptoSaid : Prop := leafGetsUptoRow.holds Try.pinned (OpenSpec.upto leafGetsSpec)

/-- 'boscagelaw02.LeafHalves', WHERE WHAT IT READS IS OF BULK AT MOST 1048576: true; the input reads as it did. -/
def leafHalvesUptoRow : OpenClaim := { program := "ytkoiffkonjpoiaa", sum := "b117a03006599c9a140a6b69278336ad083f7a877a649916dcaa07980e1ced56", func := "boscage/boscagelaw02.LeafHalves", spec := "leafHalves", unfollowed := true, recurses := true, plainKeys := false, apart := false, narrowed := true }
def LeafHalvesUptoSaid : Prop := leafHalvesUptoRow.holds Try.pinned (OpenSpec.upto leafHalvesSpec)

/-- 'boscagelaw03.InnerWith', WHERE WHAT IT READS IS OF BULK AT MOST 1048576: true; the input reads as it did. -/
def innerWithUptoRow : OpenClaim := { program := "ytkoiffkonjpoiaa", sum := "b117a03006599c9a140a6b69278336ad083f7a877a649916dcaa07980e1ced56", func := "boscage/boscagelaw03.InnerWith", spec := "innerWith", plainKeys := false, apart := false, narrowed := true }
def InnerWithUptoSaid : Prop := innerWithUptoRow.holds Try.pinned (OpenSpec.upto innerWithSpec)

/-- 'boscagelaw03.InnerParts', WHERE WHAT IT READS IS OF BULK AT MOST 1048576: true; the input reads as it did. -/
def innerPartsUptoRow : OpenClaim := { program := "ytkoiffkonjpoiaa", sum := "b117a03006599c9a140a6b69278336ad083f7a877a649916dcaa07980e1ced56", func := "boscage/boscagelaw03.InnerParts", spec := "innerParts", plainKeys := false, apart := false, narrowed := true }
def InnerPartsUptoSaid : Prop := innerPartsUptoRow.holds Try.pinned (OpenSpec.upto innerPartsSpec)

/-- 'boscagelaw03.InnerTurns', WHERE WHAT IT READS IS OF BULK AT MOST 1048576: true; the input reads as it did. -/
def innerTurnsUptoRow : OpenClaim := { program := "ytkoiffkonjpoiaa", sum := "b117a03006599c9a140a6b69278336ad083f7a877a649916dcaa07980e1ced56", func := "boscage/boscagelaw03.InnerTurns", spec := "innerTurns", plainKeys := false, apart := false, narrowed := true }
def InnerTurnsUptoSaid : Prop := innerTurnsUptoRow.holds Try.pinned (OpenSpec.upto innerTurnsSpec)

/-- 'boscagelaw03.InnerJoins', WHERE WHAT IT READS IS OF BULK AT MOST 1048576: true; the input reads as it did. -/
def innerJoinsUptoRow : OpenClaim := { program := "ytkoiffkonjpoiaa", sum := "b117a03006599c9a140a6b69278336ad083f7a877a649916dcaa07980e1ced56", func := "boscage/boscagelaw03.InnerJoins", spec := "innerJoins", plainKeys := false, apart := false, narrowed := true }
def InnerJoinsUptoSaid : Prop := innerJoinsUptoRow.holds Try.pinned (OpenSpec.upto innerJoinsSpec)

/-- 'boscagelaw02.LeafJoins', WHERE WHAT IT READS IS OF BULK AT MOST 1048576: true; the input reads as it did. -/
def leafJoinsUptoRow : OpenClaim := { program := "ytkoiffkonjpoiaa", sum := "b117a03006599c9a140a6b69278336ad083f7a877a649916dcaa07980e1ced56", func := "boscage/boscagelaw02.LeafJoins", spec := "leafJoins", unfollowed := true, recurses := true, plainKeys := false, apart := false, narrowed := true }
def LeafJoinsUptoSaid : Prop := leafJoinsUptoRow.holds Try.pinned (OpenSpec.upto leafJoinsSpec)

/-- 'boscagelaw02.LeafRises', WHERE WHAT IT READS IS OF BULK AT MOST 1048576: true; the input reads as it did. -/
def leafRisesUptoRow : OpenClaim := { program := "ytkoiffkonjpoiaa", sum := "b117a03006599c9a140a6b69278336ad083f7a877a649916dcaa07980e1ced56", func := "boscage/boscagelaw02.LeafRises", spec := "leafRises", unfollowed := true, recurses := true, plainKeys := false, apart := false, narrowed := true }
def LeafRisesUptoSaid : Prop := leafRisesUptoRow.holds Try.pinned (OpenSpec.upto leafRisesSpec)

/-- 'boscagelaw02.LeafBetween', WHERE WHAT IT READS IS OF BULK AT MOST 1048576: true; the input reads as it did. -/
def leafBetweenUptoRow : OpenClaim := { program := "ytkoiffkonjpoiaa", sum := "b117a03006599c9a140a6b69278336ad083f7a877a649916dcaa07980e1ced56", func := "boscage/boscagelaw02.LeafBetween", spec := "leafBetween", unfollowed := true, recurses := true, plainKeys := false, apart := false, narrowed := true }
def LeafBetweenUptoSaid : Prop := leafBetweenUptoRow.holds Try.pinned (OpenSpec.upto leafBetweenSpec)

/-- 'boscagelaw02.LeafCuts', WHERE WHAT IT READS IS OF BULK AT MOST 1048576: true; the input reads as it did. -/
def leafCutsUptoRow : OpenClaim := { program := "ytkoiffkonjpoiaa", sum := "b117a03006599c9a140a6b69278336ad083f7a877a649916dcaa07980e1ced56", func := "boscage/boscagelaw02.LeafCuts", spec := "leafCuts", unfollowed := true, recurses := true, plainKeys := false, apart := false, narrowed := true }
def LeafCutsUptoSaid : Prop := leafCutsUptoRow.holds Try.pinned (OpenSpec.upto leafCutsSpec)

/-- 'boscagelaw02.LeafPuts', WHERE WHAT IT READS IS OF BULK AT MOST 1048576: true; the input reads as it did. -/
def leafPutsUptoRow : OpenClaim := { program := "ytkoiffkonjpoiaa", sum := "b117a03006599c9a140a6b69278336ad083f7a877a649916dcaa07980e1ced56", func := "boscage/boscagelaw02.LeafPuts", spec := "leafPuts", inPlace := ["slices.overlaps[boscage/leaf.Pair]"], unfollowed := true, recurses := true, plainKeys := false, apart := false, narrowed := true }
def LeafPutsUptoSaid : Prop := leafPutsUptoRow.holds Try.pinned (OpenSpec.upto leafPutsSpec)

/-- 'boscagelaw02.LeafUndoes', WHERE WHAT IT READS IS OF BULK AT MOST 1048576: true; the input reads as it did. -/
def leafUndoesUptoRow : OpenClaim := { program := "ytkoiffkonjpoiaa", sum := "b117a03006599c9a140a6b69278336ad083f7a877a649916dcaa07980e1ced56", func := "boscage/boscagelaw02.LeafUndoes", spec := "leafUndoes", inPlace := ["slices.overlaps[boscage/leaf.Pair]"], unfollowed := true, recurses := true, plainKeys := false, apart := false, narrowed := true }
def LeafUndoesUptoSaid : Prop := leafUndoesUptoRow.holds Try.pinned (OpenSpec.upto leafUndoesSpec)

/-- 'boscagelaw02.LeafChains', WHERE WHAT IT READS IS OF BULK AT MOST 1048576: true; the input reads as it did. -/
def leafChainsUptoRow : OpenClaim := { program := "ytkoiffkonjpoiaa", sum := "b117a03006599c9a140a6b69278336ad083f7a877a649916dcaa07980e1ced56", func := "boscage/boscagelaw02.LeafChains", spec := "leafChains", inPlace := ["slices.overlaps[boscage/leaf.Pair]"], unfollowed := true, recurses := true, plainKeys := false, apart := false, narrowed := true }
def LeafChainsUptoSaid : Prop := leafChainsUptoRow.holds Try.pinned (OpenSpec.upto leafChainsSpec)

/-- 'boscagelaw02.LeafKeeps', WHERE WHAT IT READS IS OF BULK AT MOST 1048576: true; the input reads as it did. -/
def leafKeepsUptoRow : OpenClaim := { program := "ytkoiffkonjpoiaa", sum := "b117a03006599c9a140a6b69278336ad083f7a877a649916dcaa07980e1ced56", func := "boscage/boscagelaw02.LeafKeeps", spec := "leafKeeps", inPlace := ["slices.overlaps[boscage/leaf.Pair]"], unfollowed := true, recurses := true, plainKeys := false, apart := false, narrowed := true }
def LeafKeepsUptoSaid : Prop := leafKeepsUptoRow.holds Try.pinned (OpenSpec.upto leafKeepsSpec)

/-- 'boscagelaw18.ModelSpans', WHERE WHAT IT READS IS OF BULK AT MOST 1048576: true; the input reads as it did. -/
def modelSpansUptoRow : OpenClaim := { program := "ytkoiffkonjpoiaa", sum := "b117a03006599c9a140a6b69278336ad083f7a877a649916dcaa07980e1ced56", func := "boscage/boscagelaw18.ModelSpans", spec := "modelSpans", inPlace := ["slices.overlaps[boscage/leaf.Pair]"], unfollowed := true, recurses := true, plainKeys := false, apart := false, narrowed := true }
def ModelSpansUptoSaid : Prop := modelSpansUptoRow.holds Try.pinned (OpenSpec.upto modelSpansSpec)

/-- 'boscagelaw18.ModelOf', WHERE WHAT IT READS IS OF BULK AT MOST 1048576: true; the input reads as it did. -/
def modelOfUptoRow : OpenClaim := { program := "ytkoiffkonjpoiaa", sum := "b117a03006599c9a140a6b69278336ad083f7a877a649916dcaa07980e1ced56", func := "boscage/boscagelaw18.ModelOf", spec := "modelOf", inPlace := ["slices.overlaps[boscage/leaf.Pair]"], unfollowed := true, recurses := true, plainKeys := false, apart := false, narrowed := true }
def ModelOfUptoSaid : Prop := modelOfUptoRow.holds Try.pinned (OpenSpec.upto modelOfSpec)

/-- 'boscagelaw18.ModelApplies', WHERE WHAT IT READS IS OF BULK AT MOST 1048576: true; the input reads as it did. -/
def modelAppliesUptoRow : OpenClaim := { program := "ytkoiffkonjpoiaa", sum := "b117a03006599c9a140a6b69278336ad083f7a877a649916dcaa07980e1ced56", func := "boscage/boscagelaw18.ModelApplies", spec := "modelApplies", inPlace := ["slices.overlaps[boscage/leaf.Pair]"], unfollowed := true, recurses := true, plainKeys := false, apart := false, narrowed := true }
def ModelAppliesUptoSaid : Prop := modelAppliesUptoRow.holds Try.pinned (OpenSpec.upto modelAppliesSpec)

/-- 'boscagelaw18.ModelChains', WHERE WHAT IT READS IS OF BULK AT MOST 1048576: true; the input reads as it did. -/
def modelChainsUptoRow : OpenClaim := { program := "ytkoiffkonjpoiaa", sum := "b117a03006599c9a140a6b69278336ad083f7a877a649916dcaa07980e1ced56", func := "boscage/boscagelaw18.ModelChains", spec := "modelChains", inPlace := ["slices.overlaps[boscage/leaf.Pair]"], unfollowed := true, recurses := true, plainKeys := false, apart := false, narrowed := true }
def ModelChainsUptoSaid : Prop := modelChainsUptoRow.holds Try.pinned (OpenSpec.upto modelChainsSpec)

/-- 'boscagelaw18.ModelAgree', WHERE WHAT IT READS IS OF BULK AT MOST 1048576: true; the input reads as it did. -/
def modelAgreeUptoRow : OpenClaim := { program := "ytkoiffkonjpoiaa", sum := "b117a03006599c9a140a6b69278336ad083f7a877a649916dcaa07980e1ced56", func := "boscage/boscagelaw18.ModelAgree", spec := "modelAgree", inPlace := ["slices.overlaps[boscage/leaf.Pair]"], unfollowed := true, recurses := true, plainKeys := false, apart := false, narrowed := true }
def ModelAgreeUptoSaid : Prop := modelAgreeUptoRow.holds Try.pinned (OpenSpec.upto modelAgreeSpec)

/-- 'boscagelaw03.InnerAbsorbs', WHERE WHAT IT READS IS OF BULK AT MOST 1048576: true; the input reads as it did. -/
def innerAbsorbsUptoRow : OpenClaim := { program := "ytkoiffkonjpoiaa", sum := "b117a03006599c9a140a6b69278336ad083f7a877a649916dcaa07980e1ced56", func := "boscage/boscagelaw03.InnerAbsorbs", spec := "innerAbsorbs", inPlace := ["slices.overlaps[boscage/ref.Ref]", "slices.overlaps[int64]"], plainKeys := false, apart := false, narrowed := true }
def InnerAbsorbsUptoSaid : Prop := innerAbsorbsUptoRow.holds Try.pinned (OpenSpec.upto innerAbsorbsSpec)

/-- 'boscagelaw03.InnerRoutes', WHERE WHAT IT READS IS OF BULK AT MOST 1048576: true; the input reads as it did. -/
def innerRoutesUptoRow : OpenClaim := { program := "ytkoiffkonjpoiaa", sum := "b117a03006599c9a140a6b69278336ad083f7a877a649916dcaa07980e1ced56", func := "boscage/boscagelaw03.InnerRoutes", spec := "innerRoutes", inPlace := ["slices.overlaps[boscage/ref.Ref]", "slices.overlaps[int64]"], plainKeys := false, apart := false, narrowed := true }
def InnerRoutesUptoSaid : Prop := innerRoutesUptoRow.holds Try.pinned (OpenSpec.upto innerRoutesSpec)

/-- 'boscagelaw18.ModelNumbers', WHERE WHAT IT READS IS OF BULK AT MOST 1048576: true; the input reads as it did. -/
def modelNumbersUptoRow : OpenClaim := { program := "ytkoiffkonjpoiaa", sum := "b117a03006599c9a140a6b69278336ad083f7a877a649916dcaa07980e1ced56", func := "boscage/boscagelaw18.ModelNumbers", spec := "modelNumbers", inPlace := ["slices.overlaps[boscage/leaf.Pair]"], unfollowed := true, recurses := true, plainKeys := false, apart := false, narrowed := true }
def ModelNumbersUptoSaid : Prop := modelNumbersUptoRow.holds Try.pinned (OpenSpec.upto modelNumbersSpec)

/-- 'boscagelaw18.ModelSame', WHERE WHAT IT READS IS OF BULK AT MOST 1048576: true; the input reads as it did. -/
def modelSameUptoRow : OpenClaim := { program := "ytkoiffkonjpoiaa", sum := "b117a03006599c9a140a6b69278336ad083f7a877a649916dcaa07980e1ced56", func := "boscage/boscagelaw18.ModelSame", spec := "modelSame", inPlace := ["slices.overlaps[boscage/leaf.Pair]"], unfollowed := true, recurses := true, plainKeys := false, apart := false, narrowed := true }
def ModelSameUptoSaid : Prop := modelSameUptoRow.holds Try.pinned (OpenSpec.upto modelSameSpec)

/-- 'boscagelaw03.InnerMerges', WHERE WHAT IT READS IS OF BULK AT MOST 1048576: true; the input reads as it did. -/
def innerMergesUptoRow : OpenClaim := { program := "ytkoiffkonjpoiaa", sum := "b117a03006599c9a140a6b69278336ad083f7a877a649916dcaa07980e1ced56", func := "boscage/boscagelaw03.InnerMerges", spec := "innerMerges", inPlace := ["slices.overlaps[boscage/ref.Ref]"], plainKeys := false, apart := false, narrowed := true }
def InnerMergesUptoSaid : Prop := innerMergesUptoRow.holds Try.pinned (OpenSpec.upto innerMergesSpec)

/-- 'boscagelaw18.ModelMakes', WHERE WHAT IT READS IS OF BULK AT MOST 1048576: true; the input reads as it did. -/
def modelMakesUptoRow : OpenClaim := { program := "ytkoiffkonjpoiaa", sum := "b117a03006599c9a140a6b69278336ad083f7a877a649916dcaa07980e1ced56", func := "boscage/boscagelaw18.ModelMakes", spec := "modelMakes", inPlace := ["slices.overlaps[boscage/leaf.Pair]"], unfollowed := true, recurses := true, plainKeys := false, apart := false, narrowed := true }
def ModelMakesUptoSaid : Prop := modelMakesUptoRow.holds Try.pinned (OpenSpec.upto modelMakesSpec)

/-- 'boscagelaw03.InnerKeeps', WHERE WHAT IT READS IS OF BULK AT MOST 1048576: true; the input reads as it did. -/
def innerKeepsUptoRow : OpenClaim := { program := "ytkoiffkonjpoiaa", sum := "b117a03006599c9a140a6b69278336ad083f7a877a649916dcaa07980e1ced56", func := "boscage/boscagelaw03.InnerKeeps", spec := "innerKeeps", inPlace := ["slices.overlaps[boscage/ref.Ref]", "slices.overlaps[int64]"], plainKeys := false, apart := false, narrowed := true }
def InnerKeepsUptoSaid : Prop := innerKeepsUptoRow.holds Try.pinned (OpenSpec.upto innerKeepsSpec)

/-- 'boscagelaw22.StoryLegal', WHERE WHAT IT READS IS OF BULK AT MOST 1048576: true; the input reads as it did. -/
def storyLegalUptoRow : OpenClaim := { program := "ytkoiffkonjpoiaa", sum := "b117a03006599c9a140a6b69278336ad083f7a877a649916dcaa07980e1ced56", func := "boscage/boscagelaw22.StoryLegal", spec := "storyLegal", inPlace := ["slices.overlaps[boscage/leaf.Pair]"], unfollowed := true, recurses := true, plainKeys := false, apart := false, narrowed := true }
def StoryLegalUptoSaid : Prop := storyLegalUptoRow.holds Try.pinned (OpenSpec.upto storyLegalSpec)

/-- 'boscagelaw22.StoryOrders', WHERE WHAT IT READS IS OF BULK AT MOST 1048576: true; the input reads as it did. -/
def storyOrdersUptoRow : OpenClaim := { program := "ytkoiffkonjpoiaa", sum := "b117a03006599c9a140a6b69278336ad083f7a877a649916dcaa07980e1ced56", func := "boscage/boscagelaw22.StoryOrders", spec := "storyOrders", inPlace := ["slices.overlaps[boscage/leaf.Pair]"], unfollowed := true, recurses := true, plainKeys := false, apart := false, narrowed := true }
def StoryOrdersUptoSaid : Prop := storyOrdersUptoRow.holds Try.pinned (OpenSpec.upto storyOrdersSpec)

/-- 'boscagelaw22.StoryFinds', WHERE WHAT IT READS IS OF BULK AT MOST 1048576: true; the input reads as it did. -/
def storyFindsUptoRow : OpenClaim := { program := "ytkoiffkonjpoiaa", sum := "b117a03006599c9a140a6b69278336ad083f7a877a649916dcaa07980e1ced56", func := "boscage/boscagelaw22.StoryFinds", spec := "storyFinds", inPlace := ["slices.overlaps[boscage/leaf.Pair]"], unfollowed := true, recurses := true, plainKeys := false, apart := false, narrowed := true }
def StoryFindsUptoSaid : Prop := storyFindsUptoRow.holds Try.pinned (OpenSpec.upto storyFindsSpec)

/-- 'boscagelaw22.StoryOne', WHERE WHAT IT READS IS OF BULK AT MOST 1048576: true; the input reads as it did. -/
def storyOneUptoRow : OpenClaim := { program := "ytkoiffkonjpoiaa", sum := "b117a03006599c9a140a6b69278336ad083f7a877a649916dcaa07980e1ced56", func := "boscage/boscagelaw22.StoryOne", spec := "storyOne", inPlace := ["slices.overlaps[boscage/leaf.Pair]"], unfollowed := true, recurses := true, plainKeys := false, apart := false, narrowed := true }
def StoryOneUptoSaid : Prop := storyOneUptoRow.holds Try.pinned (OpenSpec.upto storyOneSpec)

/-- 'boscagelaw22.StoryWider', WHERE WHAT IT READS IS OF BULK AT MOST 1048576: true; the input reads as it did. -/
def storyWiderUptoRow : OpenClaim := { program := "ytkoiffkonjpoiaa", sum := "b117a03006599c9a140a6b69278336ad083f7a877a649916dcaa07980e1ced56", func := "boscage/boscagelaw22.StoryWider", spec := "storyWider", inPlace := ["slices.overlaps[boscage/leaf.Pair]"], unfollowed := true, recurses := true, plainKeys := false, apart := false, narrowed := true }
def StoryWiderUptoSaid : Prop := storyWiderUptoRow.holds Try.pinned (OpenSpec.upto storyWiderSpec)

/-- 'boscagelaw22.StoryNone', WHERE WHAT IT READS IS OF BULK AT MOST 1048576: true; the input reads as it did. -/
def storyNoneUptoRow : OpenClaim := { program := "ytkoiffkonjpoiaa", sum := "b117a03006599c9a140a6b69278336ad083f7a877a649916dcaa07980e1ced56", func := "boscage/boscagelaw22.StoryNone", spec := "storyNone", inPlace := ["slices.overlaps[boscage/leaf.Pair]"], unfollowed := true, recurses := true, plainKeys := false, apart := false, narrowed := true }
def StoryNoneUptoSaid : Prop := storyNoneUptoRow.holds Try.pinned (OpenSpec.upto storyNoneSpec)

/-- 'boscagelaw22.StoryMost', WHERE WHAT IT READS IS OF BULK AT MOST 1048576: true; the input reads as it did. -/
def storyMostUptoRow : OpenClaim := { program := "ytkoiffkonjpoiaa", sum := "b117a03006599c9a140a6b69278336ad083f7a877a649916dcaa07980e1ced56", func := "boscage/boscagelaw22.StoryMost", spec := "storyMost", inPlace := ["slices.overlaps[boscage/leaf.Pair]"], unfollowed := true, recurses := true, plainKeys := false, apart := false, narrowed := true }
def StoryMostUptoSaid : Prop := storyMostUptoRow.holds Try.pinned (OpenSpec.upto storyMostSpec)

end Rows
end Go.Proofs.Ytkoiffkonjpoiaa
