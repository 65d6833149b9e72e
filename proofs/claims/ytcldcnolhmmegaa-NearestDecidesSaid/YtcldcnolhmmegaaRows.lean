/-
  No cell of these rows narrows 'for every input' (looked for: loops, veiled, ifaces, maps, wideKeys, modest, calm, conditions, laid).
  DERIVED. THE GIVEN ROWS OF THIS SEAT. 7 by the template 'for every input the law returns true; each argument reads behind the call as it read before'; 0 by the template 'total and deterministic' (their statements: YtcldcnolhmmegaaTotals.lean).
  GIVEN WITH THE SEED: the statements are not yours to turn. If you find one false, say at which input.
  Laid BY PROGRAM, IN A SANDBOX (cutbox-rows.mjs): the forced cells as the released guide's own fill.sh prints them over the translation b3ed4dbcd0d45ac8… (all of the seat's roots in one cut). By AI agents, Wed Nov 11 2026. No macro, syntax, notation, axiom, sorry.
-/
import Derived.Test.YtcldcnolhmmegaaChecked
import GoSem.Claim
import GoSem.ClaimJoined
import GoSem.ClaimMapViews
import Derived.JoinedTies
import Derived.KernelRfl
namespace Go.Proofs.Ytcldcnolhmmegaa
/- THE CELL 'sum', in the pinned program and in every row, IS THE sha256 OF THE DUMP (.gsa) THAT YtcldcnolhmmegaaProg.lean LOADS. Nothing in Lean hashes anything: it is a label: what it is worth is what the hold of that sum in a sandbox is worth. -/
noncomputable def Try.pinned : Pinned := { name := "ytcldcnolhmmegaa", sum := "b3ed4dbcd0d45ac8507b51a145ad6453f7996dbf467dec5e1dfd12f47f096273", checked := Try.checked }
namespace Rows
def none {H : Type} : Left H := { results := [], args := [] }

/-- 'armplanlaw14.NearestSearches': WHATEVER THE INPUT: true; the input reads as it did. -/
def nearestSearchesSpec : ChangeSpec := { name := "nearestSearches", fn := fun _ => fun
  | [d1, d2, d3, d4, d5, d6] => { results := [.lit (.bool true)], args := [d1, d2, d3, d4, d5, d6] }
  | _ => none }
def nearestSearchesRow : OpenClaim := { program := "ytcldcnolhmmegaa", sum := "b3ed4dbcd0d45ac8507b51a145ad6453f7996dbf467dec5e1dfd12f47f096273", func := "armplan/armplanlaw14.NearestSearches", spec := "nearestSearches", unfollowed := true, recurses := true, apart := false }
def NearestSearchesSaid : Prop := nearestSearchesRow.holds Try.pinned (OpenSpec.ofChange nearestSearchesSpec)

/-- ITS FALSE NEIGHBOUR: 'it returns false'. Refute it at one input. -/
def nearestSearchesWrong : ChangeSpec := { name := "nearestSearches", fn := fun _ => fun
  | [d1, d2, d3, d4, d5, d6] => { results := [.lit (.bool false)], args := [d1, d2, d3, d4, d5, d6] }
  | _ => none }
def NearestSearchesWrongFalsely : Prop := nearestSearchesRow.holds Try.pinned (OpenSpec.ofChange nearestSearchesWrong)

/-- 'armplanlaw14.NearestWeights': WHATEVER THE INPUT: true; the input reads as it did. -/
def nearestWeightsSpec : ChangeSpec := { name := "nearestWeights", fn := fun _ => fun
  | [d1, d2, d3, d4] => { results := [.lit (.bool true)], args := [d1, d2, d3, d4] }
  | _ => none }
def nearestWeightsRow : OpenClaim := { program := "ytcldcnolhmmegaa", sum := "b3ed4dbcd0d45ac8507b51a145ad6453f7996dbf467dec5e1dfd12f47f096273", func := "armplan/armplanlaw14.NearestWeights", spec := "nearestWeights", unfollowed := true, recurses := true, apart := false }
def NearestWeightsSaid : Prop := nearestWeightsRow.holds Try.pinned (OpenSpec.ofChange nearestWeightsSpec)

/-- ITS FALSE NEIGHBOUR: 'it returns false'. Refute it at one input. -/
def nearestWeightsWrong : ChangeSpec := { name := "nearestWeights", fn := fun _ => fun
  | [d1, d2, d3, d4] => { results := [.lit (.bool false)], args := [d1, d2, d3, d4] }
  | _ => none }
def NearestWeightsWrongFalsely : Prop := nearestWeightsRow.holds Try.pinned (OpenSpec.ofChange nearestWeightsWrong)

/-- 'armplanlaw14.NearestDecides': WHATEVER THE INPUT: true; the input reads as it did. -/
def nearestDecidesSpec : ChangeSpec := { name := "nearestDecides", fn := fun _ => fun
  | [d1, d2, d3] => { results := [.lit (.bool true)], args := [d1, d2, d3] }
  | _ => none }
def nearestDecidesRow : OpenClaim := { program := "ytcldcnolhmmegaa", sum := "b3ed4dbcd0d45ac8507b51a145ad6453f7996dbf467dec5e1dfd12f47f096273", func := "armplan/armplanlaw14.NearestDecides", spec := "nearestDecides", unfollowed := true, recurses := true, apart := false }
def NearestDecidesSaid : Prop := nearestDecidesRow.holds Try.pinned (OpenSpec.ofChange nearestDecidesSpec)

/-- ITS FALSE NEIGHBOUR: 'it returns false'. Refute it at one input. -/
def nearestDecidesWrong : ChangeSpec := { name := "nearestDecides", fn := fun _ => fun
  | [d1, d2, d3] => { results := [.lit (.bool false)], args := [d1, d2, d3] }
  | _ => none }
def NearestDecidesWrongFalsely : Prop := nearestDecidesRow.holds Try.pinned (OpenSpec.ofChange nearestDecidesWrong)

/-- 'armplanlaw14.NearestExclusive': WHATEVER THE INPUT: true; the input reads as it did. -/
def nearestExclusiveSpec : ChangeSpec := { name := "nearestExclusive", fn := fun _ => fun
  | [d1, d2, d3, d4, d5] => { results := [.lit (.bool true)], args := [d1, d2, d3, d4, d5] }
  | _ => none }
def nearestExclusiveRow : OpenClaim := { program := "ytcldcnolhmmegaa", sum := "b3ed4dbcd0d45ac8507b51a145ad6453f7996dbf467dec5e1dfd12f47f096273", func := "armplan/armplanlaw14.NearestExclusive", spec := "nearestExclusive", unfollowed := true, recurses := true, apart := false }
def NearestExclusiveSaid : Prop := nearestExclusiveRow.holds Try.pinned (OpenSpec.ofChange nearestExclusiveSpec)

/-- ITS FALSE NEIGHBOUR: 'it returns false'. Refute it at one input. -/
def nearestExclusiveWrong : ChangeSpec := { name := "nearestExclusive", fn := fun _ => fun
  | [d1, d2, d3, d4, d5] => { results := [.lit (.bool false)], args := [d1, d2, d3, d4, d5] }
  | _ => none }
def NearestExclusiveWrongFalsely : Prop := nearestExclusiveRow.holds Try.pinned (OpenSpec.ofChange nearestExclusiveWrong)

/-- 'armplanlaw14.NearestPoints': WHATEVER THE INPUT: true; the input reads as it did. -/
def nearestPointsSpec : ChangeSpec := { name := "nearestPoints", fn := fun _ => fun
  | [d1, d2, d3, d4] => { results := [.lit (.bool true)], args := [d1, d2, d3, d4] }
  | _ => none }
def nearestPointsRow : OpenClaim := { program := "ytcldcnolhmmegaa", sum := "b3ed4dbcd0d45ac8507b51a145ad6453f7996dbf467dec5e1dfd12f47f096273", func := "armplan/armplanlaw14.NearestPoints", spec := "nearestPoints", unfollowed := true, recurses := true, apart := false }
def NearestPointsSaid : Prop := nearestPointsRow.holds Try.pinned (OpenSpec.ofChange nearestPointsSpec)

/-- ITS FALSE NEIGHBOUR: 'it returns false'. Refute it at one input. -/
def nearestPointsWrong : ChangeSpec := { name := "nearestPoints", fn := fun _ => fun
  | [d1, d2, d3, d4] => { results := [.lit (.bool false)], args := [d1, d2, d3, d4] }
  | _ => none }
def NearestPointsWrongFalsely : Prop := nearestPointsRow.holds Try.pinned (OpenSpec.ofChange nearestPointsWrong)

/-- 'armplanlaw14.NearestMoves': WHATEVER THE INPUT: true; the input reads as it did. -/
def nearestMovesSpec : ChangeSpec := { name := "nearestMoves", fn := fun _ => fun
  | [d1, d2, d3, d4] => { results := [.lit (.bool true)], args := [d1, d2, d3, d4] }
  | _ => none }
def nearestMovesRow : OpenClaim := { program := "ytcldcnolhmmegaa", sum := "b3ed4dbcd0d45ac8507b51a145ad6453f7996dbf467dec5e1dfd12f47f096273", func := "armplan/armplanlaw14.NearestMoves", spec := "nearestMoves", unfollowed := true, recurses := true, apart := false }
def NearestMovesSaid : Prop := nearestMovesRow.holds Try.pinned (OpenSpec.ofChange nearestMovesSpec)

/-- ITS FALSE NEIGHBOUR: 'it returns false'. Refute it at one input. -/
def nearestMovesWrong : ChangeSpec := { name := "nearestMoves", fn := fun _ => fun
  | [d1, d2, d3, d4] => { results := [.lit (.bool false)], args := [d1, d2, d3, d4] }
  | _ => none }
def NearestMovesWrongFalsely : Prop := nearestMovesRow.holds Try.pinned (OpenSpec.ofChange nearestMovesWrong)

/-- 'armplanlaw14.NearestMore': WHATEVER THE INPUT: true; the input reads as it did. -/
def nearestMoreSpec : ChangeSpec := { name := "nearestMore", fn := fun _ => fun
  | [d1, d2, d3, d4, d5] => { results := [.lit (.bool true)], args := [d1, d2, d3, d4, d5] }
  | _ => none }
def nearestMoreRow : OpenClaim := { program := "ytcldcnolhmmegaa", sum := "b3ed4dbcd0d45ac8507b51a145ad6453f7996dbf467dec5e1dfd12f47f096273", func := "armplan/armplanlaw14.NearestMore", spec := "nearestMore", unfollowed := true, recurses := true, apart := false }
def NearestMoreSaid : Prop := nearestMoreRow.holds Try.pinned (OpenSpec.ofChange nearestMoreSpec)

/-- ITS FALSE NEIGHBOUR: 'it returns false'. Refute it at one input. -/
def nearestMoreWrong : ChangeSpec := { name := "nearestMore", fn := fun _ => fun
  | [d1, d2, d3, d4, d5] => { results := [.lit (.bool false)], args := [d1, d2, d3, d4, d5] }
  | _ => none }
def NearestMoreWrongFalsely : Prop := nearestMoreRow.holds Try.pinned (OpenSpec.ofChange nearestMoreWrong)

/- THE SECOND FORM. 'bulk': how many values and letters a reading holds, each counted each time it is reached (what is shared counts as often as it is met; a slice's spare places count too). A statement '..UptoSaid' is the law's where the arguments, and the package variables that the reading takes, are together of bulk at most 1048576: NARROWER than '..Said'. Prove '..Said' where nothing that the law and all that it calls make is longer than what came in: it says more and counts as full. Else prove '..UptoSaid'. A law counts once. -/
mutual
def uptoBulk {H : Type} : DataW H → Nat
  | .lit (.string bytes) => bytes.length + 1
  | .lit _ => 1
  | .nil => 1
  | .ptr d => uptoBulk d + 1
  | .slice elems spare => uptoBulkAll elems + uptoBulkAll spare + 1
  | .agg parts => uptoBulkAll parts + 1
  | .iface _ d => uptoBulk d + 1
  | .map entries => uptoBulkEntries entries + 1
  | .held _ => 1
def uptoBulkAll {H : Type} : List (DataW H) → Nat
  | [] => 0
  | d :: r => uptoBulk d + uptoBulkAll r
def uptoBulkEntries {H : Type} : List (Lit × DataW H) → Nat
  | [] => 0
  | x :: r => uptoBulkEntry x + uptoBulkEntries r
def uptoBulkEntry {H : Type} : Lit × DataW H → Nat
  | (.string bytes, d) => bytes.length + uptoBulk d + 1
  | (_, d) => uptoBulk d + 1
 end
def uptoSmall : (H : Type) → List (DataW H) → Bool := fun _ ds => decide (uptoBulkAll ds ≤ 1048576)
def OpenSpec.upto (s : _root_.Go.ChangeSpec) : _root_.Go.OpenSpec := { _root_.Go.OpenSpec.ofChange s with cond := some uptoSmall }

/-- 'armplanlaw14.NearestSearches', WHERE WHAT IT READS IS OF BULK AT MOST 1048576: true; the input reads as it did. -/
def nearestSearchesUptoRow : OpenClaim := { program := "ytcldcnolhmmegaa", sum := "b3ed4dbcd0d45ac8507b51a145ad6453f7996dbf467dec5e1dfd12f47f096273", func := "armplan/armplanlaw14.NearestSearches", spec := "nearestSearches", unfollowed := true, recurses := true, apart := false, narrowed := true }
def NearestSearchesUptoSaid : Prop := nearestSearchesUptoRow.holds Try.pinned (OpenSpec.upto nearestSearchesSpec)

/-- 'armplanlaw14.NearestWeights', WHERE WHAT IT READS IS OF BULK AT MOST 1048576: true; the input reads as it did. -/
def nearestWeightsUptoRow : OpenClaim := { program := "ytcldcnolhmmegaa", sum := "b3ed4dbcd0d45ac8507b51a145ad6453f7996dbf467dec5e1dfd12f47f096273", func := "armplan/armplanlaw14.NearestWeights", spec := "nearestWeights", unfollowed := true, recurses := true, apart := false, narrowed := true }
def NearestWeightsUptoSaid : Prop := nearestWeightsUptoRow.holds Try.pinned (OpenSpec.upto nearestWeightsSpec)

/-- 'armplanlaw14.NearestDecides', WHERE WHAT IT READS IS OF BULK AT MOST 1048576: true; the input reads as it did. -/
def nearestDecidesUptoRow : OpenClaim := { program := "ytcldcnolhmmegaa", sum := "b3ed4dbcd0d45ac8507b51a145ad6453f7996dbf467dec5e1dfd12f47f096273", func := "armplan/armplanlaw14.NearestDecides", spec := "nearestDecides", unfollowed := true, recurses := true, apart := false, narrowed := true }
def NearestDecidesUptoSaid : Prop := nearestDecidesUptoRow.holds Try.pinned (OpenSpec.upto nearestDecidesSpec)

/-- 'armplanlaw14.NearestExclusive', WHERE WHAT IT READS IS OF BULK AT MOST 1048576: true; the input reads as it did. -/
def nearestExclusiveUptoRow : OpenClaim := { program := "ytcldcnolhmmegaa", sum := "b3ed4dbcd0d45ac8507b51a145ad6453f7996dbf467dec5e1dfd12f47f096273", func := "armplan/armplanlaw14.NearestExclusive", spec := "nearestExclusive", unfollowed := true, recurses := true, apart := false, narrowed := true }
def NearestExclusiveUptoSaid : Prop := nearestExclusiveUptoRow.holds Try.pinned (OpenSpec.upto nearestExclusiveSpec)

/-- 'armplanlaw14.NearestPoints', WHERE WHAT IT READS IS OF BULK AT MOST 1048576: true; the input reads as it did. -/
def nearestPointsUptoRow : OpenClaim := { program := "ytcldcnolhmmegaa", sum := "b3ed4dbcd0d45ac8507b51a145ad6453f7996dbf467dec5e1dfd12f47f096273", func := "armplan/armplanlaw14.NearestPoints", spec := "nearestPoints", unfollowed := true, recurses := true, apart := false, narrowed := true }
def NearestPointsUptoSaid : Prop := nearestPointsUptoRow.holds Try.pinned (OpenSpec.upto nearestPointsSpec)

/-- 'armplanlaw14.NearestMoves', WHERE WHAT IT READS IS OF BULK AT MOST 1048576: true; the input reads as it did. -/
def nearestMovesUptoRow : OpenClaim := { program := "ytcldcnolhmmegaa", sum := "b3ed4dbcd0d45ac8507b51a145ad6453f7996dbf467dec5e1dfd12f47f096273", func := "armplan/armplanlaw14.NearestMoves", spec := "nearestMoves", unfollowed := true, recurses := true, apart := false, narrowed := true }
def NearestMovesUptoSaid : Prop := nearestMovesUptoRow.holds Try.pinned (OpenSpec.upto nearestMovesSpec)

/-- 'armplanlaw14.NearestMore', WHERE WHAT IT READS IS OF BULK AT MOST 1048576: true; the input reads as it did. -/
def nearestMoreUptoRow : OpenClaim := { program := "ytcldcnolhmmegaa", sum := "b3ed4dbcd0d45ac8507b51a145ad6453f7996dbf467dec5e1dfd12f47f096273", func := "armplan/armplanlaw14.NearestMore", spec := "nearestMore", unfollowed := true, recurses := true, apart := false, narrowed := true }
def NearestMoreUptoSaid : Prop := nearestMoreUptoRow.holds Try.pinned (OpenSpec.upto nearestMoreSpec)

end Rows
end Go.Proofs.Ytcldcnolhmmegaa
