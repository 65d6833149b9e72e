/-
  No cell of these rows narrows 'for every input' (looked for: loops, veiled, ifaces, maps, wideKeys, modest, calm, conditions, laid).
  DERIVED. THE GIVEN ROWS OF THIS SEAT. 31 by the template 'for every input the law returns true; each argument reads behind the call as it read before'; 0 by the template 'total and deterministic' (their statements: YtfpdjpleplhcgaaTotals.lean).
  GIVEN WITH THE SEED: the statements are not yours to turn. If you find one false, say at which input.
  Laid BY PROGRAM, IN A SANDBOX (cutbox-rows.mjs): the forced cells as the released guide's own fill.sh prints them over the translation ea46e24a7c26495c… (all of the seat's roots in one cut). By AI agents, Wed Nov 11 2026. No macro, syntax, notation, axiom, sorry.
-/
import Derived.Test.YtfpdjpleplhcgaaChecked
import GoSem.Claim
import GoSem.ClaimJoined
import GoSem.ClaimMapViews
import Derived.JoinedTies
import Derived.KernelRfl
namespace Go.Proofs.Ytfpdjpleplhcgaa
/- THE CELL 'sum', in the pinned program and in every row, IS THE sha256 OF THE DUMP (.gsa) THAT YtfpdjpleplhcgaaProg.lean LOADS. Nothing in Lean hashes anything: it is a label: what it is worth is what the hold of that sum in a sandbox is worth. -/
noncomputable def Try.pinned : Pinned := { name := "ytfpdjpleplhcgaa", sum := "ea46e24a7c26495ce1b257fe12e9aa988f2a921d4633b9f8ecc2f41fb1058bd4", checked := Try.checked }
namespace Rows
def none {H : Type} : Left H := { results := [], args := [] }

/-- 'armplanlaw10.ShapeCombines': WHATEVER THE INPUT: true; the input reads as it did. -/
def shapeCombinesSpec : ChangeSpec := { name := "shapeCombines", fn := fun _ => fun
  | [d1, d2, d3, d4, d5] => { results := [.lit (.bool true)], args := [d1, d2, d3, d4, d5] }
  | _ => none }
def shapeCombinesRow : OpenClaim := { program := "ytfpdjpleplhcgaa", sum := "ea46e24a7c26495ce1b257fe12e9aa988f2a921d4633b9f8ecc2f41fb1058bd4", func := "armplan/armplanlaw10.ShapeCombines", spec := "shapeCombines", apart := false }
def ShapeCombinesSaid : Prop := shapeCombinesRow.holds Try.pinned (OpenSpec.ofChange shapeCombinesSpec)

/-- ITS FALSE NEIGHBOUR: 'it returns false'. Refute it at one input. -/
def shapeCombinesWrong : ChangeSpec := { name := "shapeCombines", fn := fun _ => fun
  | [d1, d2, d3, d4, d5] => { results := [.lit (.bool false)], args := [d1, d2, d3, d4, d5] }
  | _ => none }
def ShapeCombinesWrongFalsely : Prop := shapeCombinesRow.holds Try.pinned (OpenSpec.ofChange shapeCombinesWrong)

/-- 'armplanlaw10.ShapeCombineWithin': WHATEVER THE INPUT: true; the input reads as it did. -/
def shapeCombineWithinSpec : ChangeSpec := { name := "shapeCombineWithin", fn := fun _ => fun
  | [d1, d2, d3] => { results := [.lit (.bool true)], args := [d1, d2, d3] }
  | _ => none }
def shapeCombineWithinRow : OpenClaim := { program := "ytfpdjpleplhcgaa", sum := "ea46e24a7c26495ce1b257fe12e9aa988f2a921d4633b9f8ecc2f41fb1058bd4", func := "armplan/armplanlaw10.ShapeCombineWithin", spec := "shapeCombineWithin", apart := false }
def ShapeCombineWithinSaid : Prop := shapeCombineWithinRow.holds Try.pinned (OpenSpec.ofChange shapeCombineWithinSpec)

/-- ITS FALSE NEIGHBOUR: 'it returns false'. Refute it at one input. -/
def shapeCombineWithinWrong : ChangeSpec := { name := "shapeCombineWithin", fn := fun _ => fun
  | [d1, d2, d3] => { results := [.lit (.bool false)], args := [d1, d2, d3] }
  | _ => none }
def ShapeCombineWithinWrongFalsely : Prop := shapeCombineWithinRow.holds Try.pinned (OpenSpec.ofChange shapeCombineWithinWrong)

/-- 'armplanlaw10.ShapeCombineScales': WHATEVER THE INPUT: true; the input reads as it did. -/
def shapeCombineScalesSpec : ChangeSpec := { name := "shapeCombineScales", fn := fun _ => fun
  | [d1, d2, d3] => { results := [.lit (.bool true)], args := [d1, d2, d3] }
  | _ => none }
def shapeCombineScalesRow : OpenClaim := { program := "ytfpdjpleplhcgaa", sum := "ea46e24a7c26495ce1b257fe12e9aa988f2a921d4633b9f8ecc2f41fb1058bd4", func := "armplan/armplanlaw10.ShapeCombineScales", spec := "shapeCombineScales", apart := false }
def ShapeCombineScalesSaid : Prop := shapeCombineScalesRow.holds Try.pinned (OpenSpec.ofChange shapeCombineScalesSpec)

/-- ITS FALSE NEIGHBOUR: 'it returns false'. Refute it at one input. -/
def shapeCombineScalesWrong : ChangeSpec := { name := "shapeCombineScales", fn := fun _ => fun
  | [d1, d2, d3] => { results := [.lit (.bool false)], args := [d1, d2, d3] }
  | _ => none }
def ShapeCombineScalesWrongFalsely : Prop := shapeCombineScalesRow.holds Try.pinned (OpenSpec.ofChange shapeCombineScalesWrong)

/-- 'armplanlaw10.ShapeBoundHolds': WHATEVER THE INPUT: true; the input reads as it did. -/
def shapeBoundHoldsSpec : ChangeSpec := { name := "shapeBoundHolds", fn := fun _ => fun
  | [d1, d2, d3] => { results := [.lit (.bool true)], args := [d1, d2, d3] }
  | _ => none }
def shapeBoundHoldsRow : OpenClaim := { program := "ytfpdjpleplhcgaa", sum := "ea46e24a7c26495ce1b257fe12e9aa988f2a921d4633b9f8ecc2f41fb1058bd4", func := "armplan/armplanlaw10.ShapeBoundHolds", spec := "shapeBoundHolds", apart := false }
def ShapeBoundHoldsSaid : Prop := shapeBoundHoldsRow.holds Try.pinned (OpenSpec.ofChange shapeBoundHoldsSpec)

/-- ITS FALSE NEIGHBOUR: 'it returns false'. Refute it at one input. -/
def shapeBoundHoldsWrong : ChangeSpec := { name := "shapeBoundHolds", fn := fun _ => fun
  | [d1, d2, d3] => { results := [.lit (.bool false)], args := [d1, d2, d3] }
  | _ => none }
def ShapeBoundHoldsWrongFalsely : Prop := shapeBoundHoldsRow.holds Try.pinned (OpenSpec.ofChange shapeBoundHoldsWrong)

/-- 'armplanlaw2.IntervalSums': WHATEVER THE INPUT: true; the input reads as it did. -/
def intervalSumsSpec : ChangeSpec := { name := "intervalSums", fn := fun _ => fun
  | [d1, d2, d3, d4, d5, d6, d7] => { results := [.lit (.bool true)], args := [d1, d2, d3, d4, d5, d6, d7] }
  | _ => none }
def intervalSumsRow : OpenClaim := { program := "ytfpdjpleplhcgaa", sum := "ea46e24a7c26495ce1b257fe12e9aa988f2a921d4633b9f8ecc2f41fb1058bd4", func := "armplan/armplanlaw2.IntervalSums", spec := "intervalSums", apart := false }
def IntervalSumsSaid : Prop := intervalSumsRow.holds Try.pinned (OpenSpec.ofChange intervalSumsSpec)

/-- ITS FALSE NEIGHBOUR: 'it returns false'. Refute it at one input. -/
def intervalSumsWrong : ChangeSpec := { name := "intervalSums", fn := fun _ => fun
  | [d1, d2, d3, d4, d5, d6, d7] => { results := [.lit (.bool false)], args := [d1, d2, d3, d4, d5, d6, d7] }
  | _ => none }
def IntervalSumsWrongFalsely : Prop := intervalSumsRow.holds Try.pinned (OpenSpec.ofChange intervalSumsWrong)

/-- 'armplanlaw2.IntervalMeets': WHATEVER THE INPUT: true; the input reads as it did. -/
def intervalMeetsSpec : ChangeSpec := { name := "intervalMeets", fn := fun _ => fun
  | [d1, d2, d3, d4, d5] => { results := [.lit (.bool true)], args := [d1, d2, d3, d4, d5] }
  | _ => none }
def intervalMeetsRow : OpenClaim := { program := "ytfpdjpleplhcgaa", sum := "ea46e24a7c26495ce1b257fe12e9aa988f2a921d4633b9f8ecc2f41fb1058bd4", func := "armplan/armplanlaw2.IntervalMeets", spec := "intervalMeets", apart := false }
def IntervalMeetsSaid : Prop := intervalMeetsRow.holds Try.pinned (OpenSpec.ofChange intervalMeetsSpec)

/-- ITS FALSE NEIGHBOUR: 'it returns false'. Refute it at one input. -/
def intervalMeetsWrong : ChangeSpec := { name := "intervalMeets", fn := fun _ => fun
  | [d1, d2, d3, d4, d5] => { results := [.lit (.bool false)], args := [d1, d2, d3, d4, d5] }
  | _ => none }
def IntervalMeetsWrongFalsely : Prop := intervalMeetsRow.holds Try.pinned (OpenSpec.ofChange intervalMeetsWrong)

/-- 'armplanlaw13.SupportDots': WHATEVER THE INPUT: true; the input reads as it did. -/
def supportDotsSpec : ChangeSpec := { name := "supportDots", fn := fun _ => fun
  | [d1, d2, d3, d4, d5, d6] => { results := [.lit (.bool true)], args := [d1, d2, d3, d4, d5, d6] }
  | _ => none }
def supportDotsRow : OpenClaim := { program := "ytfpdjpleplhcgaa", sum := "ea46e24a7c26495ce1b257fe12e9aa988f2a921d4633b9f8ecc2f41fb1058bd4", func := "armplan/armplanlaw13.SupportDots", spec := "supportDots", apart := false }
def SupportDotsSaid : Prop := supportDotsRow.holds Try.pinned (OpenSpec.ofChange supportDotsSpec)

/-- ITS FALSE NEIGHBOUR: 'it returns false'. Refute it at one input. -/
def supportDotsWrong : ChangeSpec := { name := "supportDots", fn := fun _ => fun
  | [d1, d2, d3, d4, d5, d6] => { results := [.lit (.bool false)], args := [d1, d2, d3, d4, d5, d6] }
  | _ => none }
def SupportDotsWrongFalsely : Prop := supportDotsRow.holds Try.pinned (OpenSpec.ofChange supportDotsWrong)

/-- 'armplanlaw16.OverlapExcess': WHATEVER THE INPUT: true; the input reads as it did. -/
def overlapExcessSpec : ChangeSpec := { name := "overlapExcess", fn := fun _ => fun
  | [d1, d2, d3, d4, d5, d6, d7, d8, d9, d10] => { results := [.lit (.bool true)], args := [d1, d2, d3, d4, d5, d6, d7, d8, d9, d10] }
  | _ => none }
def overlapExcessRow : OpenClaim := { program := "ytfpdjpleplhcgaa", sum := "ea46e24a7c26495ce1b257fe12e9aa988f2a921d4633b9f8ecc2f41fb1058bd4", func := "armplan/armplanlaw16.OverlapExcess", spec := "overlapExcess", apart := false }
def OverlapExcessSaid : Prop := overlapExcessRow.holds Try.pinned (OpenSpec.ofChange overlapExcessSpec)

/-- ITS FALSE NEIGHBOUR: 'it returns false'. Refute it at one input. -/
def overlapExcessWrong : ChangeSpec := { name := "overlapExcess", fn := fun _ => fun
  | [d1, d2, d3, d4, d5, d6, d7, d8, d9, d10] => { results := [.lit (.bool false)], args := [d1, d2, d3, d4, d5, d6, d7, d8, d9, d10] }
  | _ => none }
def OverlapExcessWrongFalsely : Prop := overlapExcessRow.holds Try.pinned (OpenSpec.ofChange overlapExcessWrong)

/-- 'armplanlaw16.OverlapSwaps': WHATEVER THE INPUT: true; the input reads as it did. -/
def overlapSwapsSpec : ChangeSpec := { name := "overlapSwaps", fn := fun _ => fun
  | [d1, d2, d3, d4, d5] => { results := [.lit (.bool true)], args := [d1, d2, d3, d4, d5] }
  | _ => none }
def overlapSwapsRow : OpenClaim := { program := "ytfpdjpleplhcgaa", sum := "ea46e24a7c26495ce1b257fe12e9aa988f2a921d4633b9f8ecc2f41fb1058bd4", func := "armplan/armplanlaw16.OverlapSwaps", spec := "overlapSwaps", apart := false }
def OverlapSwapsSaid : Prop := overlapSwapsRow.holds Try.pinned (OpenSpec.ofChange overlapSwapsSpec)

/-- ITS FALSE NEIGHBOUR: 'it returns false'. Refute it at one input. -/
def overlapSwapsWrong : ChangeSpec := { name := "overlapSwaps", fn := fun _ => fun
  | [d1, d2, d3, d4, d5] => { results := [.lit (.bool false)], args := [d1, d2, d3, d4, d5] }
  | _ => none }
def OverlapSwapsWrongFalsely : Prop := overlapSwapsRow.holds Try.pinned (OpenSpec.ofChange overlapSwapsWrong)

/-- 'armplanlaw16.OverlapMonotone': WHATEVER THE INPUT: true; the input reads as it did. -/
def overlapMonotoneSpec : ChangeSpec := { name := "overlapMonotone", fn := fun _ => fun
  | [d1, d2, d3, d4, d5, d6, d7] => { results := [.lit (.bool true)], args := [d1, d2, d3, d4, d5, d6, d7] }
  | _ => none }
def overlapMonotoneRow : OpenClaim := { program := "ytfpdjpleplhcgaa", sum := "ea46e24a7c26495ce1b257fe12e9aa988f2a921d4633b9f8ecc2f41fb1058bd4", func := "armplan/armplanlaw16.OverlapMonotone", spec := "overlapMonotone", apart := false }
def OverlapMonotoneSaid : Prop := overlapMonotoneRow.holds Try.pinned (OpenSpec.ofChange overlapMonotoneSpec)

/-- ITS FALSE NEIGHBOUR: 'it returns false'. Refute it at one input. -/
def overlapMonotoneWrong : ChangeSpec := { name := "overlapMonotone", fn := fun _ => fun
  | [d1, d2, d3, d4, d5, d6, d7] => { results := [.lit (.bool false)], args := [d1, d2, d3, d4, d5, d6, d7] }
  | _ => none }
def OverlapMonotoneWrongFalsely : Prop := overlapMonotoneRow.holds Try.pinned (OpenSpec.ofChange overlapMonotoneWrong)

/-- 'armplanlaw16.OverlapScales': WHATEVER THE INPUT: true; the input reads as it did. -/
def overlapScalesSpec : ChangeSpec := { name := "overlapScales", fn := fun _ => fun
  | [d1, d2, d3, d4, d5, d6] => { results := [.lit (.bool true)], args := [d1, d2, d3, d4, d5, d6] }
  | _ => none }
def overlapScalesRow : OpenClaim := { program := "ytfpdjpleplhcgaa", sum := "ea46e24a7c26495ce1b257fe12e9aa988f2a921d4633b9f8ecc2f41fb1058bd4", func := "armplan/armplanlaw16.OverlapScales", spec := "overlapScales", apart := false }
def OverlapScalesSaid : Prop := overlapScalesRow.holds Try.pinned (OpenSpec.ofChange overlapScalesSpec)

/-- ITS FALSE NEIGHBOUR: 'it returns false'. Refute it at one input. -/
def overlapScalesWrong : ChangeSpec := { name := "overlapScales", fn := fun _ => fun
  | [d1, d2, d3, d4, d5, d6] => { results := [.lit (.bool false)], args := [d1, d2, d3, d4, d5, d6] }
  | _ => none }
def OverlapScalesWrongFalsely : Prop := overlapScalesRow.holds Try.pinned (OpenSpec.ofChange overlapScalesWrong)

/-- 'armplanlaw16.OverlapRadius': WHATEVER THE INPUT: true; the input reads as it did. -/
def overlapRadiusSpec : ChangeSpec := { name := "overlapRadius", fn := fun _ => fun
  | [d1, d2, d3, d4, d5, d6] => { results := [.lit (.bool true)], args := [d1, d2, d3, d4, d5, d6] }
  | _ => none }
def overlapRadiusRow : OpenClaim := { program := "ytfpdjpleplhcgaa", sum := "ea46e24a7c26495ce1b257fe12e9aa988f2a921d4633b9f8ecc2f41fb1058bd4", func := "armplan/armplanlaw16.OverlapRadius", spec := "overlapRadius", apart := false }
def OverlapRadiusSaid : Prop := overlapRadiusRow.holds Try.pinned (OpenSpec.ofChange overlapRadiusSpec)

/-- ITS FALSE NEIGHBOUR: 'it returns false'. Refute it at one input. -/
def overlapRadiusWrong : ChangeSpec := { name := "overlapRadius", fn := fun _ => fun
  | [d1, d2, d3, d4, d5, d6] => { results := [.lit (.bool false)], args := [d1, d2, d3, d4, d5, d6] }
  | _ => none }
def OverlapRadiusWrongFalsely : Prop := overlapRadiusRow.holds Try.pinned (OpenSpec.ofChange overlapRadiusWrong)

/-- 'armplanlaw16.OverlapCommon': WHATEVER THE INPUT: true; the input reads as it did. -/
def overlapCommonSpec : ChangeSpec := { name := "overlapCommon", fn := fun _ => fun
  | [d1, d2, d3, d4, d5, d6] => { results := [.lit (.bool true)], args := [d1, d2, d3, d4, d5, d6] }
  | _ => none }
def overlapCommonRow : OpenClaim := { program := "ytfpdjpleplhcgaa", sum := "ea46e24a7c26495ce1b257fe12e9aa988f2a921d4633b9f8ecc2f41fb1058bd4", func := "armplan/armplanlaw16.OverlapCommon", spec := "overlapCommon", apart := false }
def OverlapCommonSaid : Prop := overlapCommonRow.holds Try.pinned (OpenSpec.ofChange overlapCommonSpec)

/-- ITS FALSE NEIGHBOUR: 'it returns false'. Refute it at one input. -/
def overlapCommonWrong : ChangeSpec := { name := "overlapCommon", fn := fun _ => fun
  | [d1, d2, d3, d4, d5, d6] => { results := [.lit (.bool false)], args := [d1, d2, d3, d4, d5, d6] }
  | _ => none }
def OverlapCommonWrongFalsely : Prop := overlapCommonRow.holds Try.pinned (OpenSpec.ofChange overlapCommonWrong)

/-- 'armplanlaw16.OverlapSound': WHATEVER THE INPUT: true; the input reads as it did. -/
def overlapSoundSpec : ChangeSpec := { name := "overlapSound", fn := fun _ => fun
  | [d1, d2, d3, d4, d5, d6, d7] => { results := [.lit (.bool true)], args := [d1, d2, d3, d4, d5, d6, d7] }
  | _ => none }
def overlapSoundRow : OpenClaim := { program := "ytfpdjpleplhcgaa", sum := "ea46e24a7c26495ce1b257fe12e9aa988f2a921d4633b9f8ecc2f41fb1058bd4", func := "armplan/armplanlaw16.OverlapSound", spec := "overlapSound", apart := false }
def OverlapSoundSaid : Prop := overlapSoundRow.holds Try.pinned (OpenSpec.ofChange overlapSoundSpec)

/-- ITS FALSE NEIGHBOUR: 'it returns false'. Refute it at one input. -/
def overlapSoundWrong : ChangeSpec := { name := "overlapSound", fn := fun _ => fun
  | [d1, d2, d3, d4, d5, d6, d7] => { results := [.lit (.bool false)], args := [d1, d2, d3, d4, d5, d6, d7] }
  | _ => none }
def OverlapSoundWrongFalsely : Prop := overlapSoundRow.holds Try.pinned (OpenSpec.ofChange overlapSoundWrong)

/-- 'armplanlaw2.IntervalEncloses': WHATEVER THE INPUT: true; the input reads as it did. -/
def intervalEnclosesSpec : ChangeSpec := { name := "intervalEncloses", fn := fun _ => fun
  | [d1, d2, d3, d4, d5, d6] => { results := [.lit (.bool true)], args := [d1, d2, d3, d4, d5, d6] }
  | _ => none }
def intervalEnclosesRow : OpenClaim := { program := "ytfpdjpleplhcgaa", sum := "ea46e24a7c26495ce1b257fe12e9aa988f2a921d4633b9f8ecc2f41fb1058bd4", func := "armplan/armplanlaw2.IntervalEncloses", spec := "intervalEncloses", apart := false }
def IntervalEnclosesSaid : Prop := intervalEnclosesRow.holds Try.pinned (OpenSpec.ofChange intervalEnclosesSpec)

/-- ITS FALSE NEIGHBOUR: 'it returns false'. Refute it at one input. -/
def intervalEnclosesWrong : ChangeSpec := { name := "intervalEncloses", fn := fun _ => fun
  | [d1, d2, d3, d4, d5, d6] => { results := [.lit (.bool false)], args := [d1, d2, d3, d4, d5, d6] }
  | _ => none }
def IntervalEnclosesWrongFalsely : Prop := intervalEnclosesRow.holds Try.pinned (OpenSpec.ofChange intervalEnclosesWrong)

/-- 'armplanlaw13.SupportNormals': WHATEVER THE INPUT: true; the input reads as it did. -/
def supportNormalsSpec : ChangeSpec := { name := "supportNormals", fn := fun _ => fun
  | [d1, d2, d3, d4, d5] => { results := [.lit (.bool true)], args := [d1, d2, d3, d4, d5] }
  | _ => none }
def supportNormalsRow : OpenClaim := { program := "ytfpdjpleplhcgaa", sum := "ea46e24a7c26495ce1b257fe12e9aa988f2a921d4633b9f8ecc2f41fb1058bd4", func := "armplan/armplanlaw13.SupportNormals", spec := "supportNormals", apart := false }
def SupportNormalsSaid : Prop := supportNormalsRow.holds Try.pinned (OpenSpec.ofChange supportNormalsSpec)

/-- ITS FALSE NEIGHBOUR: 'it returns false'. Refute it at one input. -/
def supportNormalsWrong : ChangeSpec := { name := "supportNormals", fn := fun _ => fun
  | [d1, d2, d3, d4, d5] => { results := [.lit (.bool false)], args := [d1, d2, d3, d4, d5] }
  | _ => none }
def SupportNormalsWrongFalsely : Prop := supportNormalsRow.holds Try.pinned (OpenSpec.ofChange supportNormalsWrong)

/-- 'armplanlaw13.SupportNorms': WHATEVER THE INPUT: true; the input reads as it did. -/
def supportNormsSpec : ChangeSpec := { name := "supportNorms", fn := fun _ => fun
  | [d1, d2] => { results := [.lit (.bool true)], args := [d1, d2] }
  | _ => none }
def supportNormsRow : OpenClaim := { program := "ytfpdjpleplhcgaa", sum := "ea46e24a7c26495ce1b257fe12e9aa988f2a921d4633b9f8ecc2f41fb1058bd4", func := "armplan/armplanlaw13.SupportNorms", spec := "supportNorms", apart := false }
def SupportNormsSaid : Prop := supportNormsRow.holds Try.pinned (OpenSpec.ofChange supportNormsSpec)

/-- ITS FALSE NEIGHBOUR: 'it returns false'. Refute it at one input. -/
def supportNormsWrong : ChangeSpec := { name := "supportNorms", fn := fun _ => fun
  | [d1, d2] => { results := [.lit (.bool false)], args := [d1, d2] }
  | _ => none }
def SupportNormsWrongFalsely : Prop := supportNormsRow.holds Try.pinned (OpenSpec.ofChange supportNormsWrong)

/-- 'armplanlaw2.IntervalSets': WHATEVER THE INPUT: true; the input reads as it did. -/
def intervalSetsSpec : ChangeSpec := { name := "intervalSets", fn := fun _ => fun
  | [d1, d2, d3, d4, d5, d6, d7] => { results := [.lit (.bool true)], args := [d1, d2, d3, d4, d5, d6, d7] }
  | _ => none }
def intervalSetsRow : OpenClaim := { program := "ytfpdjpleplhcgaa", sum := "ea46e24a7c26495ce1b257fe12e9aa988f2a921d4633b9f8ecc2f41fb1058bd4", func := "armplan/armplanlaw2.IntervalSets", spec := "intervalSets", apart := false }
def IntervalSetsSaid : Prop := intervalSetsRow.holds Try.pinned (OpenSpec.ofChange intervalSetsSpec)

/-- ITS FALSE NEIGHBOUR: 'it returns false'. Refute it at one input. -/
def intervalSetsWrong : ChangeSpec := { name := "intervalSets", fn := fun _ => fun
  | [d1, d2, d3, d4, d5, d6, d7] => { results := [.lit (.bool false)], args := [d1, d2, d3, d4, d5, d6, d7] }
  | _ => none }
def IntervalSetsWrongFalsely : Prop := intervalSetsRow.holds Try.pinned (OpenSpec.ofChange intervalSetsWrong)

/-- 'armplanlaw2.IntervalUnits': WHATEVER THE INPUT: true; the input reads as it did. -/
def intervalUnitsSpec : ChangeSpec := { name := "intervalUnits", fn := fun _ => fun
  | [d1, d2] => { results := [.lit (.bool true)], args := [d1, d2] }
  | _ => none }
def intervalUnitsRow : OpenClaim := { program := "ytfpdjpleplhcgaa", sum := "ea46e24a7c26495ce1b257fe12e9aa988f2a921d4633b9f8ecc2f41fb1058bd4", func := "armplan/armplanlaw2.IntervalUnits", spec := "intervalUnits", apart := false }
def IntervalUnitsSaid : Prop := intervalUnitsRow.holds Try.pinned (OpenSpec.ofChange intervalUnitsSpec)

/-- ITS FALSE NEIGHBOUR: 'it returns false'. Refute it at one input. -/
def intervalUnitsWrong : ChangeSpec := { name := "intervalUnits", fn := fun _ => fun
  | [d1, d2] => { results := [.lit (.bool false)], args := [d1, d2] }
  | _ => none }
def IntervalUnitsWrongFalsely : Prop := intervalUnitsRow.holds Try.pinned (OpenSpec.ofChange intervalUnitsWrong)

/-- 'armplanlaw10.ShapeBounds': WHATEVER THE INPUT: true; the input reads as it did. -/
def shapeBoundsSpec : ChangeSpec := { name := "shapeBounds", fn := fun _ => fun
  | [d1, d2, d3, d4] => { results := [.lit (.bool true)], args := [d1, d2, d3, d4] }
  | _ => none }
def shapeBoundsRow : OpenClaim := { program := "ytfpdjpleplhcgaa", sum := "ea46e24a7c26495ce1b257fe12e9aa988f2a921d4633b9f8ecc2f41fb1058bd4", func := "armplan/armplanlaw10.ShapeBounds", spec := "shapeBounds", apart := false }
def ShapeBoundsSaid : Prop := shapeBoundsRow.holds Try.pinned (OpenSpec.ofChange shapeBoundsSpec)

/-- ITS FALSE NEIGHBOUR: 'it returns false'. Refute it at one input. -/
def shapeBoundsWrong : ChangeSpec := { name := "shapeBounds", fn := fun _ => fun
  | [d1, d2, d3, d4] => { results := [.lit (.bool false)], args := [d1, d2, d3, d4] }
  | _ => none }
def ShapeBoundsWrongFalsely : Prop := shapeBoundsRow.holds Try.pinned (OpenSpec.ofChange shapeBoundsWrong)

/-- 'armplanlaw2.IntervalRootSquares': WHATEVER THE INPUT: true; the input reads as it did. -/
def intervalRootSquaresSpec : ChangeSpec := { name := "intervalRootSquares", fn := fun _ => fun
  | [d1, d2] => { results := [.lit (.bool true)], args := [d1, d2] }
  | _ => none }
def intervalRootSquaresRow : OpenClaim := { program := "ytfpdjpleplhcgaa", sum := "ea46e24a7c26495ce1b257fe12e9aa988f2a921d4633b9f8ecc2f41fb1058bd4", func := "armplan/armplanlaw2.IntervalRootSquares", spec := "intervalRootSquares", apart := false }
def IntervalRootSquaresSaid : Prop := intervalRootSquaresRow.holds Try.pinned (OpenSpec.ofChange intervalRootSquaresSpec)

/-- ITS FALSE NEIGHBOUR: 'it returns false'. Refute it at one input. -/
def intervalRootSquaresWrong : ChangeSpec := { name := "intervalRootSquares", fn := fun _ => fun
  | [d1, d2] => { results := [.lit (.bool false)], args := [d1, d2] }
  | _ => none }
def IntervalRootSquaresWrongFalsely : Prop := intervalRootSquaresRow.holds Try.pinned (OpenSpec.ofChange intervalRootSquaresWrong)

/-- 'armplanlaw2.IntervalProducts': WHATEVER THE INPUT: true; the input reads as it did. -/
def intervalProductsSpec : ChangeSpec := { name := "intervalProducts", fn := fun _ => fun
  | [d1, d2, d3, d4, d5, d6, d7] => { results := [.lit (.bool true)], args := [d1, d2, d3, d4, d5, d6, d7] }
  | _ => none }
def intervalProductsRow : OpenClaim := { program := "ytfpdjpleplhcgaa", sum := "ea46e24a7c26495ce1b257fe12e9aa988f2a921d4633b9f8ecc2f41fb1058bd4", func := "armplan/armplanlaw2.IntervalProducts", spec := "intervalProducts", apart := false }
def IntervalProductsSaid : Prop := intervalProductsRow.holds Try.pinned (OpenSpec.ofChange intervalProductsSpec)

/-- ITS FALSE NEIGHBOUR: 'it returns false'. Refute it at one input. -/
def intervalProductsWrong : ChangeSpec := { name := "intervalProducts", fn := fun _ => fun
  | [d1, d2, d3, d4, d5, d6, d7] => { results := [.lit (.bool false)], args := [d1, d2, d3, d4, d5, d6, d7] }
  | _ => none }
def IntervalProductsWrongFalsely : Prop := intervalProductsRow.holds Try.pinned (OpenSpec.ofChange intervalProductsWrong)

/-- 'armplanlaw13.SupportExtremes': WHATEVER THE INPUT: true; the input reads as it did. -/
def supportExtremesSpec : ChangeSpec := { name := "supportExtremes", fn := fun _ => fun
  | [d1, d2, d3, d4, d5, d6] => { results := [.lit (.bool true)], args := [d1, d2, d3, d4, d5, d6] }
  | _ => none }
def supportExtremesRow : OpenClaim := { program := "ytfpdjpleplhcgaa", sum := "ea46e24a7c26495ce1b257fe12e9aa988f2a921d4633b9f8ecc2f41fb1058bd4", func := "armplan/armplanlaw13.SupportExtremes", spec := "supportExtremes", unfollowed := true, recurses := true, apart := false }
def SupportExtremesSaid : Prop := supportExtremesRow.holds Try.pinned (OpenSpec.ofChange supportExtremesSpec)

/-- ITS FALSE NEIGHBOUR: 'it returns false'. Refute it at one input. -/
def supportExtremesWrong : ChangeSpec := { name := "supportExtremes", fn := fun _ => fun
  | [d1, d2, d3, d4, d5, d6] => { results := [.lit (.bool false)], args := [d1, d2, d3, d4, d5, d6] }
  | _ => none }
def SupportExtremesWrongFalsely : Prop := supportExtremesRow.holds Try.pinned (OpenSpec.ofChange supportExtremesWrong)

/-- 'armplanlaw13.SupportMonotone': WHATEVER THE INPUT: true; the input reads as it did. -/
def supportMonotoneSpec : ChangeSpec := { name := "supportMonotone", fn := fun _ => fun
  | [d1, d2, d3, d4, d5] => { results := [.lit (.bool true)], args := [d1, d2, d3, d4, d5] }
  | _ => none }
def supportMonotoneRow : OpenClaim := { program := "ytfpdjpleplhcgaa", sum := "ea46e24a7c26495ce1b257fe12e9aa988f2a921d4633b9f8ecc2f41fb1058bd4", func := "armplan/armplanlaw13.SupportMonotone", spec := "supportMonotone", unfollowed := true, recurses := true, apart := false }
def SupportMonotoneSaid : Prop := supportMonotoneRow.holds Try.pinned (OpenSpec.ofChange supportMonotoneSpec)

/-- ITS FALSE NEIGHBOUR: 'it returns false'. Refute it at one input. -/
def supportMonotoneWrong : ChangeSpec := { name := "supportMonotone", fn := fun _ => fun
  | [d1, d2, d3, d4, d5] => { results := [.lit (.bool false)], args := [d1, d2, d3, d4, d5] }
  | _ => none }
def SupportMonotoneWrongFalsely : Prop := supportMonotoneRow.holds Try.pinned (OpenSpec.ofChange supportMonotoneWrong)

/-- 'armplanlaw13.SupportNegates': WHATEVER THE INPUT: true; the input reads as it did. -/
def supportNegatesSpec : ChangeSpec := { name := "supportNegates", fn := fun _ => fun
  | [d1, d2, d3, d4] => { results := [.lit (.bool true)], args := [d1, d2, d3, d4] }
  | _ => none }
def supportNegatesRow : OpenClaim := { program := "ytfpdjpleplhcgaa", sum := "ea46e24a7c26495ce1b257fe12e9aa988f2a921d4633b9f8ecc2f41fb1058bd4", func := "armplan/armplanlaw13.SupportNegates", spec := "supportNegates", unfollowed := true, recurses := true, apart := false }
def SupportNegatesSaid : Prop := supportNegatesRow.holds Try.pinned (OpenSpec.ofChange supportNegatesSpec)

/-- ITS FALSE NEIGHBOUR: 'it returns false'. Refute it at one input. -/
def supportNegatesWrong : ChangeSpec := { name := "supportNegates", fn := fun _ => fun
  | [d1, d2, d3, d4] => { results := [.lit (.bool false)], args := [d1, d2, d3, d4] }
  | _ => none }
def SupportNegatesWrongFalsely : Prop := supportNegatesRow.holds Try.pinned (OpenSpec.ofChange supportNegatesWrong)

/-- 'armplanlaw13.SupportHull': WHATEVER THE INPUT: true; the input reads as it did. -/
def supportHullSpec : ChangeSpec := { name := "supportHull", fn := fun _ => fun
  | [d1, d2, d3, d4, d5, d6] => { results := [.lit (.bool true)], args := [d1, d2, d3, d4, d5, d6] }
  | _ => none }
def supportHullRow : OpenClaim := { program := "ytfpdjpleplhcgaa", sum := "ea46e24a7c26495ce1b257fe12e9aa988f2a921d4633b9f8ecc2f41fb1058bd4", func := "armplan/armplanlaw13.SupportHull", spec := "supportHull", unfollowed := true, recurses := true, apart := false }
def SupportHullSaid : Prop := supportHullRow.holds Try.pinned (OpenSpec.ofChange supportHullSpec)

/-- ITS FALSE NEIGHBOUR: 'it returns false'. Refute it at one input. -/
def supportHullWrong : ChangeSpec := { name := "supportHull", fn := fun _ => fun
  | [d1, d2, d3, d4, d5, d6] => { results := [.lit (.bool false)], args := [d1, d2, d3, d4, d5, d6] }
  | _ => none }
def SupportHullWrongFalsely : Prop := supportHullRow.holds Try.pinned (OpenSpec.ofChange supportHullWrong)

/-- 'armplanlaw13.SupportShift': WHATEVER THE INPUT: true; the input reads as it did. -/
def supportShiftSpec : ChangeSpec := { name := "supportShift", fn := fun _ => fun
  | [d1, d2, d3, d4, d5] => { results := [.lit (.bool true)], args := [d1, d2, d3, d4, d5] }
  | _ => none }
def supportShiftRow : OpenClaim := { program := "ytfpdjpleplhcgaa", sum := "ea46e24a7c26495ce1b257fe12e9aa988f2a921d4633b9f8ecc2f41fb1058bd4", func := "armplan/armplanlaw13.SupportShift", spec := "supportShift", unfollowed := true, recurses := true, apart := false }
def SupportShiftSaid : Prop := supportShiftRow.holds Try.pinned (OpenSpec.ofChange supportShiftSpec)

/-- ITS FALSE NEIGHBOUR: 'it returns false'. Refute it at one input. -/
def supportShiftWrong : ChangeSpec := { name := "supportShift", fn := fun _ => fun
  | [d1, d2, d3, d4, d5] => { results := [.lit (.bool false)], args := [d1, d2, d3, d4, d5] }
  | _ => none }
def SupportShiftWrongFalsely : Prop := supportShiftRow.holds Try.pinned (OpenSpec.ofChange supportShiftWrong)

/-- 'armplanlaw2.IntervalMonotone': WHATEVER THE INPUT: true; the input reads as it did. -/
def intervalMonotoneSpec : ChangeSpec := { name := "intervalMonotone", fn := fun _ => fun
  | [d1, d2, d3, d4, d5, d6, d7] => { results := [.lit (.bool true)], args := [d1, d2, d3, d4, d5, d6, d7] }
  | _ => none }
def intervalMonotoneRow : OpenClaim := { program := "ytfpdjpleplhcgaa", sum := "ea46e24a7c26495ce1b257fe12e9aa988f2a921d4633b9f8ecc2f41fb1058bd4", func := "armplan/armplanlaw2.IntervalMonotone", spec := "intervalMonotone", apart := false }
def IntervalMonotoneSaid : Prop := intervalMonotoneRow.holds Try.pinned (OpenSpec.ofChange intervalMonotoneSpec)

/-- ITS FALSE NEIGHBOUR: 'it returns false'. Refute it at one input. -/
def intervalMonotoneWrong : ChangeSpec := { name := "intervalMonotone", fn := fun _ => fun
  | [d1, d2, d3, d4, d5, d6, d7] => { results := [.lit (.bool false)], args := [d1, d2, d3, d4, d5, d6, d7] }
  | _ => none }
def IntervalMonotoneWrongFalsely : Prop := intervalMonotoneRow.holds Try.pinned (OpenSpec.ofChange intervalMonotoneWrong)

/-- 'armplanlaw10.ShapePlaces': WHATEVER THE INPUT: true; the input reads as it did. -/
def shapePlacesSpec : ChangeSpec := { name := "shapePlaces", fn := fun _ => fun
  | [d1, d2, d3, d4] => { results := [.lit (.bool true)], args := [d1, d2, d3, d4] }
  | _ => none }
def shapePlacesRow : OpenClaim := { program := "ytfpdjpleplhcgaa", sum := "ea46e24a7c26495ce1b257fe12e9aa988f2a921d4633b9f8ecc2f41fb1058bd4", func := "armplan/armplanlaw10.ShapePlaces", spec := "shapePlaces", unfollowed := true, recurses := true, apart := false }
def ShapePlacesSaid : Prop := shapePlacesRow.holds Try.pinned (OpenSpec.ofChange shapePlacesSpec)

/-- ITS FALSE NEIGHBOUR: 'it returns false'. Refute it at one input. -/
def shapePlacesWrong : ChangeSpec := { name := "shapePlaces", fn := fun _ => fun
  | [d1, d2, d3, d4] => { results := [.lit (.bool false)], args := [d1, d2, d3, d4] }
  | _ => none }
def ShapePlacesWrongFalsely : Prop := shapePlacesRow.holds Try.pinned (OpenSpec.ofChange shapePlacesWrong)

/-- 'armplanlaw10.ShapeMonotone': WHATEVER THE INPUT: true; the input reads as it did. -/
def shapeMonotoneSpec : ChangeSpec := { name := "shapeMonotone", fn := fun _ => fun
  | [d1, d2, d3] => { results := [.lit (.bool true)], args := [d1, d2, d3] }
  | _ => none }
def shapeMonotoneRow : OpenClaim := { program := "ytfpdjpleplhcgaa", sum := "ea46e24a7c26495ce1b257fe12e9aa988f2a921d4633b9f8ecc2f41fb1058bd4", func := "armplan/armplanlaw10.ShapeMonotone", spec := "shapeMonotone", unfollowed := true, recurses := true, apart := false }
def ShapeMonotoneSaid : Prop := shapeMonotoneRow.holds Try.pinned (OpenSpec.ofChange shapeMonotoneSpec)

/-- ITS FALSE NEIGHBOUR: 'it returns false'. Refute it at one input. -/
def shapeMonotoneWrong : ChangeSpec := { name := "shapeMonotone", fn := fun _ => fun
  | [d1, d2, d3] => { results := [.lit (.bool false)], args := [d1, d2, d3] }
  | _ => none }
def ShapeMonotoneWrongFalsely : Prop := shapeMonotoneRow.holds Try.pinned (OpenSpec.ofChange shapeMonotoneWrong)

/-- 'armplanlaw16.OverlapExcludes': WHATEVER THE INPUT: true; the input reads as it did. -/
def overlapExcludesSpec : ChangeSpec := { name := "overlapExcludes", fn := fun _ => fun
  | [d1, d2, d3, d4, d5, d6, d7, d8] => { results := [.lit (.bool true)], args := [d1, d2, d3, d4, d5, d6, d7, d8] }
  | _ => none }
def overlapExcludesRow : OpenClaim := { program := "ytfpdjpleplhcgaa", sum := "ea46e24a7c26495ce1b257fe12e9aa988f2a921d4633b9f8ecc2f41fb1058bd4", func := "armplan/armplanlaw16.OverlapExcludes", spec := "overlapExcludes", unfollowed := true, recurses := true, apart := false }
def OverlapExcludesSaid : Prop := overlapExcludesRow.holds Try.pinned (OpenSpec.ofChange overlapExcludesSpec)

/-- ITS FALSE NEIGHBOUR: 'it returns false'. Refute it at one input. -/
def overlapExcludesWrong : ChangeSpec := { name := "overlapExcludes", fn := fun _ => fun
  | [d1, d2, d3, d4, d5, d6, d7, d8] => { results := [.lit (.bool false)], args := [d1, d2, d3, d4, d5, d6, d7, d8] }
  | _ => none }
def OverlapExcludesWrongFalsely : Prop := overlapExcludesRow.holds Try.pinned (OpenSpec.ofChange overlapExcludesWrong)

/- THE SECOND FORM. 'bulk': how many values and letters a reading holds, each counted each time it is reached (what is shared counts as often as it is met; a slice's spare places count too). A statement '..UptoSaid' is the law's where the arguments, and the package variables that the reading takes, are together of bulk at most 1048576: NARROWER than '..Said'. Prove '..Said' where nothing that the law and all that it calls make is longer than what came in: it says more and counts as full. Else prove '..UptoSaid'. A law counts once. -/
mutual
def uptoBulk {H : Type} : DataW H → Nat
  | .lit (.string bytes) => bytes.length + 1
  | .lit _ => 1
  | .nil => 1
  | .ptr d => uptoBulk d + 1
  | .slice elems spare => uptoBulkAll elems + uptoBulkAll spare + 1
  | .agg parts => uptoBulkAll parts + 1
  | .iface _ d => uptoBulk d + 1
  | .map entries => uptoBulkEntries entries + 1
  | .held _ => 1
def uptoBulkAll {H : Type} : List (DataW H) → Nat
  | [] => 0
  | d :: r => uptoBulk d + uptoBulkAll r
def uptoBulkEntries {H : Type} : List (Lit × DataW H) → Nat
  | [] => 0
  | x :: r => uptoBulkEntry x + uptoBulkEntries r
def uptoBulkEntry {H : Type} : Lit × DataW H → Nat
  | (.string bytes, d) => bytes.length + uptoBulk d + 1
  | (_, d) => uptoBulk d + 1
 end
def uptoSmall : (H : Type) → List (DataW H) → Bool := fun _ ds => decide (uptoBulkAll ds ≤ 1048576)
def OpenSpec.upto (s : _root_.Go.ChangeSpec) : _root_.Go.OpenSpec := { _root_.Go.OpenSpec.ofChange s with cond := some uptoSmall }

/-- 'armplanlaw10.ShapeCombines', WHERE WHAT IT READS IS OF BULK AT MOST 1048576: true; the input reads as it did. -/
def shapeCombinesUptoRow : OpenClaim := { program := "ytfpdjpleplhcgaa", sum := "ea46e24a7c26495ce1b257fe12e9aa988f2a921d4633b9f8ecc2f41fb1058bd4", func := "armplan/armplanlaw10.ShapeCombines", spec := "shapeCombines", apart := false, narrowed := true }
def ShapeCombinesUptoSaid : Prop := shapeCombinesUptoRow.holds Try.pinned (OpenSpec.upto shapeCombinesSpec)

/-- 'armplanlaw10.ShapeCombineWithin', WHERE WHAT IT READS IS OF BULK AT MOST 1048576: true; the input reads as it did. -/
def shapeCombineWithinUptoRow : OpenClaim := { program := "ytfpdjpleplhcgaa", sum := "ea46e24a7c26495ce1b257fe12e9aa988f2a921d4633b9f8ecc2f41fb1058bd4", func := "armplan/armplanlaw10.ShapeCombineWithin", spec := "shapeCombineWithin", apart := false, narrowed := true }
def ShapeCombineWithinUptoSaid : Prop := shapeCombineWithinUptoRow.holds Try.pinned (OpenSpec.upto shapeCombineWithinSpec)

/-- 'armplanlaw10.ShapeCombineScales', WHERE WHAT IT READS IS OF BULK AT MOST 1048576: true; the input reads as it did. -/
def shapeCombineScalesUptoRow : OpenClaim := { program := "ytfpdjpleplhcgaa", sum := "ea46e24a7c26495ce1b257fe12e9aa988f2a921d4633b9f8ecc2f41fb1058bd4", func := "armplan/armplanlaw10.ShapeCombineScales", spec := "shapeCombineScales", apart := false, narrowed := true }
def ShapeCombineScalesUptoSaid : Prop := shapeCombineScalesUptoRow.holds Try.pinned (OpenSpec.upto shapeCombineScalesSpec)

/-- 'armplanlaw10.ShapeBoundHolds', WHERE WHAT IT READS IS OF BULK AT MOST 1048576: true; the input reads as it did. -/
def shapeBoundHoldsUptoRow : OpenClaim := { program := "ytfpdjpleplhcgaa", sum := "ea46e24a7c26495ce1b257fe12e9aa988f2a921d4633b9f8ecc2f41fb1058bd4", func := "armplan/armplanlaw10.ShapeBoundHolds", spec := "shapeBoundHolds", apart := false, narrowed := true }
def ShapeBoundHoldsUptoSaid : Prop := shapeBoundHoldsUptoRow.holds Try.pinned (OpenSpec.upto shapeBoundHoldsSpec)

/-- 'armplanlaw2.IntervalSums', WHERE WHAT IT READS IS OF BULK AT MOST 1048576: true; the input reads as it did. -/
def intervalSumsUptoRow : OpenClaim := { program := "ytfpdjpleplhcgaa", sum := "ea46e24a7c26495ce1b257fe12e9aa988f2a921d4633b9f8ecc2f41fb1058bd4", func := "armplan/armplanlaw2.IntervalSums", spec := "intervalSums", apart := false, narrowed := true }
def IntervalSumsUptoSaid : Prop := intervalSumsUptoRow.holds Try.pinned (OpenSpec.upto intervalSumsSpec)

/-- 'armplanlaw2.IntervalMeets', WHERE WHAT IT READS IS OF BULK AT MOST 1048576: true; the input reads as it did. -/
def intervalMeetsUptoRow : OpenClaim := { program := "ytfpdjpleplhcgaa", sum := "ea46e24a7c26495ce1b257fe12e9aa988f2a921d4633b9f8ecc2f41fb1058bd4", func := "armplan/armplanlaw2.IntervalMeets", spec := "intervalMeets", apart := false, narrowed := true }
def IntervalMeetsUptoSaid : Prop := intervalMeetsUptoRow.holds Try.pinned (OpenSpec.upto intervalMeetsSpec)

/-- 'armplanlaw13.SupportDots', WHERE WHAT IT READS IS OF BULK AT MOST 1048576: true; the input reads as it did. -/
def supportDotsUptoRow : OpenClaim := { program := "ytfpdjpleplhcgaa", sum := "ea46e24a7c26495ce1b257fe12e9aa988f2a921d4633b9f8ecc2f41fb1058bd4", func := "armplan/armplanlaw13.SupportDots", spec := "supportDots", apart := false, narrowed := true }
def SupportDotsUptoSaid : Prop := supportDotsUptoRow.holds Try.pinned (OpenSpec.upto supportDotsSpec)

/-- 'armplanlaw16.OverlapExcess', WHERE WHAT IT READS IS OF BULK AT MOST 1048576: true; the input reads as it did. -/
def overlapExcessUptoRow : OpenClaim := { program := "ytfpdjpleplhcgaa", sum := "ea46e24a7c26495ce1b257fe12e9aa988f2a921d4633b9f8ecc2f41fb1058bd4", func := "armplan/armplanlaw16.OverlapExcess", spec := "overlapExcess", apart := false, narrowed := true }
def OverlapExcessUptoSaid : Prop := overlapExcessUptoRow.holds Try.pinned (OpenSpec.upto overlapExcessSpec)

/-- 'armplanlaw16.OverlapSwaps', WHERE WHAT IT READS IS OF BULK AT MOST 1048576: true; the input reads as it did. -/
def overlapSwapsUptoRow : OpenClaim := { program := "ytfpdjpleplhcgaa", sum := "ea46e24a7c26495ce1b257fe12e9aa988f2a921d4633b9f8ecc2f41fb1058bd4", func := "armplan/armplanlaw16.OverlapSwaps", spec := "overlapSwaps", apart := false, narrowed := true }
def OverlapSwapsUptoSaid : Prop := overlapSwapsUptoRow.holds Try.pinned (OpenSpec.upto overlapSwapsSpec)

/-- 'armplanlaw16.OverlapMonotone', WHERE WHAT IT READS IS OF BULK AT MOST 1048576: true; the input reads as it did. -/
def overlapMonotoneUptoRow : OpenClaim := { program := "ytfpdjpleplhcgaa", sum := "ea46e24a7c26495ce1b257fe12e9aa988f2a921d4633b9f8ecc2f41fb1058bd4", func := "armplan/armplanlaw16.OverlapMonotone", spec := "overlapMonotone", apart := false, narrowed := true }
def OverlapMonotoneUptoSaid : Prop := overlapMonotoneUptoRow.holds Try.pinned (OpenSpec.upto overlapMonotoneSpec)

/-- 'armplanlaw16.OverlapScales', WHERE WHAT IT READS IS OF BULK AT MOST 1048576: true; the input reads as it did. -/
def overlapScalesUptoRow : OpenClaim := { program := "ytfpdjpleplhcgaa", sum := "ea46e24a7c26495ce1b257fe12e9aa988f2a921d4633b9f8ecc2f41fb1058bd4", func := "armplan/armplanlaw16.OverlapScales", spec := "overlapScales", apart := false, narrowed := true }
def OverlapScalesUptoSaid : Prop := overlapScalesUptoRow.holds Try.pinned (OpenSpec.upto overlapScalesSpec)

/-- 'armplanlaw16.OverlapRadius', WHERE WHAT IT READS IS OF BULK AT MOST 1048576: true; the input reads as it did. -/
def overlapRadiusUptoRow : OpenClaim := { program := "ytfpdjpleplhcgaa", sum := "ea46e24a7c26495ce1b257fe12e9aa988f2a921d4633b9f8ecc2f41fb1058bd4", func := "armplan/armplanlaw16.OverlapRadius", spec := "overlapRadius", apart := false, narrowed := true }
def OverlapRadiusUptoSaid : Prop := overlapRadiusUptoRow.holds Try.pinned (OpenSpec.upto overlapRadiusSpec)

/-- 'armplanlaw16.OverlapCommon', WHERE WHAT IT READS IS OF BULK AT MOST 1048576: true; the input reads as it did. -/
def overlapCommonUptoRow : OpenClaim := { program := "ytfpdjpleplhcgaa", sum := "ea46e24a7c26495ce1b257fe12e9aa988f2a921d4633b9f8ecc2f41fb1058bd4", func := "armplan/armplanlaw16.OverlapCommon", spec := "overlapCommon", apart := false, narrowed := true }
def OverlapCommonUptoSaid : Prop := overlapCommonUptoRow.holds Try.pinned (OpenSpec.upto overlapCommonSpec)

/-- 'armplanlaw16.OverlapSound', WHERE WHAT IT READS IS OF BULK AT MOST 1048576: true; the input reads as it did. -/
def overlapSoundUptoRow : OpenClaim := { program := "ytfpdjpleplhcgaa", sum := "ea46e24a7c26495ce1b257fe12e9aa988f2a921d4633b9f8ecc2f41fb1058bd4", func := "armplan/armplanlaw16.OverlapSound", spec := "overlapSound", apart := false, narrowed := true }
def OverlapSoundUptoSaid : Prop := overlapSoundUptoRow.holds Try.pinned (OpenSpec.upto overlapSoundSpec)

/-- 'armplanlaw2.IntervalEncloses', WHERE WHAT IT READS IS OF BULK AT MOST 1048576: true; the input reads as it did. -/
def intervalEnclosesUptoRow : OpenClaim := { program := "ytfpdjpleplhcgaa", sum := "ea46e24a7c26495ce1b257fe12e9aa988f2a921d4633b9f8ecc2f41fb1058bd4", func := "armplan/armplanlaw2.IntervalEncloses", spec := "intervalEncloses", apart := false, narrowed := true }
def IntervalEnclosesUptoSaid : Prop := intervalEnclosesUptoRow.holds Try.pinned (OpenSpec.upto intervalEnclosesSpec)

/-- 'armplanlaw13.SupportNormals', WHERE WHAT IT READS IS OF BULK AT MOST 1048576: true; the input reads as it did. -/
def supportNormalsUptoRow : OpenClaim := { program := "ytfpdjpleplhcgaa", sum := "ea46e24a7c26495ce1b257fe12e9aa988f2a921d4633b9f8ecc2f41fb1058bd4", func := "armplan/armplanlaw13.SupportNormals", spec := "supportNormals", apart := false, narrowed := true }
def SupportNormalsUptoSaid : Prop := supportNormalsUptoRow.holds Try.pinned (OpenSpec.upto supportNormalsSpec)

/-- 'armplanlaw13.SupportNorms', WHERE WHAT IT READS IS OF BULK AT MOST 1048576: true; the input reads as it did. -/
def supportNormsUptoRow : OpenClaim := { program := "ytfpdjpleplhcgaa", sum := "ea46e24a7c26495ce1b257fe12e9aa988f2a921d4633b9f8ecc2f41fb1058bd4", func := "armplan/armplanlaw13.SupportNorms", spec := "supportNorms", apart := false, narrowed := true }
def SupportNormsUptoSaid : Prop := supportNormsUptoRow.holds Try.pinned (OpenSpec.upto supportNormsSpec)

/-- 'armplanlaw2.IntervalSets', WHERE WHAT IT READS IS OF BULK AT MOST 1048576: true; the input reads as it did. -/
def intervalSetsUptoRow : OpenClaim := { program := "ytfpdjpleplhcgaa", sum := "ea46e24a7c26495ce1b257fe12e9aa988f2a921d4633b9f8ecc2f41fb1058bd4", func := "armplan/armplanlaw2.IntervalSets", spec := "intervalSets", apart := false, narrowed := true }
def IntervalSetsUptoSaid : Prop := intervalSetsUptoRow.holds Try.pinned (OpenSpec.upto intervalSetsSpec)

/-- 'armplanlaw2.IntervalUnits', WHERE WHAT IT READS IS OF BULK AT MOST 1048576: true; the input reads as it did. -/
def intervalUnitsUptoRow : OpenClaim := { program := "ytfpdjpleplhcgaa", sum := "ea46e24a7c26495ce1b257fe12e9aa988f2a921d4633b9f8ecc2f41fb1058bd4", func := "armplan/armplanlaw2.IntervalUnits", spec := "intervalUnits", apart := false, narrowed := true }
def IntervalUnitsUptoSaid : Prop := intervalUnitsUptoRow.holds Try.pinned (OpenSpec.upto intervalUnitsSpec)

/-- 'armplanlaw10.ShapeBounds', WHERE WHAT IT READS IS OF BULK AT MOST 1048576: true; the input reads as it did. -/
def shapeBoundsUptoRow : OpenClaim := { program := "ytfpdjpleplhcgaa", sum := "ea46e24a7c26495ce1b257fe12e9aa988f2a921d4633b9f8ecc2f41fb1058bd4", func := "armplan/armplanlaw10.ShapeBounds", spec := "shapeBounds", apart := false, narrowed := true }
def ShapeBoundsUptoSaid : Prop := shapeBoundsUptoRow.holds Try.pinned (OpenSpec.upto shapeBoundsSpec)

/-- 'armplanlaw2.IntervalRootSquares', WHERE WHAT IT READS IS OF BULK AT MOST 1048576: true; the input reads as it did. -/
def intervalRootSquaresUptoRow : OpenClaim := { program := "ytfpdjpleplhcgaa", sum := "ea46e24a7c26495ce1b257fe12e9aa988f2a921d4633b9f8ecc2f41fb1058bd4", func := "armplan/armplanlaw2.IntervalRootSquares", spec := "intervalRootSquares", apart := false, narrowed := true }
def IntervalRootSquaresUptoSaid : Prop := intervalRootSquaresUptoRow.holds Try.pinned (OpenSpec.upto intervalRootSquaresSpec)

/-- 'armplanlaw2.IntervalProducts', WHERE WHAT IT READS IS OF BULK AT MOST 1048576: true; the input reads as it did. -/
def intervalProductsUptoRow : OpenClaim := { program := "ytfpdjpleplhcgaa", sum := "ea46e24a7c26495ce1b257fe12e9aa988f2a921d4633b9f8ecc2f41fb1058bd4", func := "armplan/armplanlaw2.IntervalProducts", spec := "intervalProducts", apart := false, narrowed := true }
def IntervalProductsUptoSaid : Prop := intervalProductsUptoRow.holds Try.pinned (OpenSpec.upto intervalProductsSpec)

/-- 'armplanlaw13.SupportExtremes', WHERE WHAT IT READS IS OF BULK AT MOST 1048576: true; the input reads as it did. -/
def supportExtremesUptoRow : OpenClaim := { program := "ytfpdjpleplhcgaa", sum := "ea46e24a7c26495ce1b257fe12e9aa988f2a921d4633b9f8ecc2f41fb1058bd4", func := "armplan/armplanlaw13.SupportExtremes", spec := "supportExtremes", unfollowed := true, recurses := true, apart := false, narrowed := true }
def SupportExtremesUptoSaid : Prop := supportExtremesUptoRow.holds Try.pinned (OpenSpec.upto supportExtremesSpec)

/-- 'armplanlaw13.SupportMonotone', WHERE WHAT IT READS IS OF BULK AT MOST 1048576: true; the input reads as it did. -/
def supportMonotoneUptoRow : OpenClaim := { program := "ytfpdjpleplhcgaa", sum := "ea46e24a7c26495ce1b257fe12e9aa988f2a921d4633b9f8ecc2f41fb1058bd4", func := "armplan/armplanlaw13.SupportMonotone", spec := "supportMonotone", unfollowed := true, recurses := true, apart := false, narrowed := true }
def SupportMonotoneUptoSaid : Prop := supportMonotoneUptoRow.holds Try.pinned (OpenSpec.upto supportMonotoneSpec)

/-- 'armplanlaw13.SupportNegates', WHERE WHAT IT READS IS OF BULK AT MOST 1048576: true; the input reads as it did. -/
def supportNegatesUptoRow : OpenClaim := { program := "ytfpdjpleplhcgaa", sum := "ea46e24a7c26495ce1b257fe12e9aa988f2a921d4633b9f8ecc2f41fb1058bd4", func := "armplan/armplanlaw13.SupportNegates", spec := "supportNegates", unfollowed := true, recurses := true, apart := false, narrowed := true }
def SupportNegatesUptoSaid : Prop := supportNegatesUptoRow.holds Try.pinned (OpenSpec.upto supportNegatesSpec)

/-- 'armplanlaw13.SupportHull', WHERE WHAT IT READS IS OF BULK AT MOST 1048576: true; the input reads as it did. -/
def supportHullUptoRow : OpenClaim := { program := "ytfpdjpleplhcgaa", sum := "ea46e24a7c26495ce1b257fe12e9aa988f2a921d4633b9f8ecc2f41fb1058bd4", func := "armplan/armplanlaw13.SupportHull", spec := "supportHull", unfollowed := true, recurses := true, apart := false, narrowed := true }
def SupportHullUptoSaid : Prop := supportHullUptoRow.holds Try.pinned (OpenSpec.upto supportHullSpec)

/-- 'armplanlaw13.SupportShift', WHERE WHAT IT READS IS OF BULK AT MOST 1048576: true; the input reads as it did. -/
def supportShiftUptoRow : OpenClaim := { program := "ytfpdjpleplhcgaa", sum := "ea46e24a7c26495ce1b257fe12e9aa988f2a921d4633b9f8ecc2f41fb1058bd4", func := "armplan/armplanlaw13.SupportShift", spec := "supportShift", unfollowed := true, recurses := true, apart := false, narrowed := true }
def SupportShiftUptoSaid : Prop := supportShiftUptoRow.holds Try.pinned (OpenSpec.upto supportShiftSpec)

/-- 'armplanlaw2.IntervalMonotone', WHERE WHAT IT READS IS OF BULK AT MOST 1048576: true; the input reads as it did. -/
def intervalMonotoneUptoRow : OpenClaim := { program := "ytfpdjpleplhcgaa", sum := "ea46e24a7c26495ce1b257fe12e9aa988f2a921d4633b9f8ecc2f41fb1058bd4", func := "armplan/armplanlaw2.IntervalMonotone", spec := "intervalMonotone", apart := false, narrowed := true }
def IntervalMonotoneUptoSaid : Prop := intervalMonotoneUptoRow.holds Try.pinned (OpenSpec.upto intervalMonotoneSpec)

/-- 'armplanlaw10.ShapePlaces', WHERE WHAT IT READS IS OF BULK AT MOST 1048576: true; the input reads as it did. -/
def shapePlacesUptoRow : OpenClaim := { program := "ytfpdjpleplhcgaa", sum := "ea46e24a7c26495ce1b257fe12e9aa988f2a921d4633b9f8ecc2f41fb1058bd4", func := "armplan/armplanlaw10.ShapePlaces", spec := "shapePlaces", unfollowed := true, recurses := true, apart := false, narrowed := true }
def ShapePlacesUptoSaid : Prop := shapePlacesUptoRow.holds Try.pinned (OpenSpec.upto shapePlacesSpec)

/-- 'armplanlaw10.ShapeMonotone', WHERE WHAT IT READS IS OF BULK AT MOST 1048576: true; the input reads as it did. -/
def shapeMonotoneUptoRow : OpenClaim := { program := "ytfpdjpleplhcgaa", sum := "ea46e24a7c26495ce1b257fe12e9aa988f2a921d4633b9f8ecc2f41fb1058bd4", func := "armplan/armplanlaw10.ShapeMonotone", spec := "shapeMonotone", unfollowed := true, recurses := true, apart := false, narrowed := true }
def ShapeMonotoneUptoSaid : Prop := shapeMonotoneUptoRow.holds Try.pinned (OpenSpec.upto shapeMonotoneSpec)

/-- 'armplanlaw16.OverlapExcludes', WHERE WHAT IT READS IS OF BULK AT MOST 1048576: true; the input reads as it did. -/
def overlapExcludesUptoRow : OpenClaim := { program := "ytfpdjpleplhcgaa", sum := "ea46e24a7c26495ce1b257fe12e9aa988f2a921d4633b9f8ecc2f41fb1058bd4", func := "armplan/armplanlaw16.OverlapExcludes", spec := "overlapExcludes", unfollowed := true, recurses := true, apart := false, narrowed := true }
def OverlapExcludesUptoSaid : Prop := overlapExcludesUptoRow.holds Try.pinned (OpenSpec.upto overlapExcludesSpec)

end Rows
end Go.Proofs.Ytfpdjpleplhcgaa
