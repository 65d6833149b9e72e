/-
  No cell of these rows narrows 'for every input' (looked for: loops, veiled, ifaces, maps, wideKeys, modest, calm, conditions, laid).
  DERIVED. THE GIVEN ROWS OF THIS SEAT. 7 by the template 'for every input the law returns true; each argument reads behind the call as it read before'; 0 by the template 'total and deterministic' (their statements: YtilffjjibcebmaaTotals.lean).
  GIVEN WITH THE SEED: the statements are not yours to turn. If you find one false, say at which input.
  Laid BY PROGRAM, IN A SANDBOX (cutbox-rows.mjs): the forced cells as the released guide's own fill.sh prints them over the translation 4bc3a7871847fb16… (all of the seat's roots in one cut). By AI agents, Wed Nov 11 2026. No macro, syntax, notation, axiom, sorry.
-/
import Derived.Test.YtilffjjibcebmaaChecked
import GoSem.Claim
import GoSem.ClaimJoined
import GoSem.ClaimMapViews
import Derived.JoinedTies
import Derived.KernelRfl
namespace Go.Proofs.Ytilffjjibcebmaa
/- THE CELL 'sum', in the pinned program and in every row, IS THE sha256 OF THE DUMP (.gsa) THAT YtilffjjibcebmaaProg.lean LOADS. Nothing in Lean hashes anything: it is a label: what it is worth is what the hold of that sum in a sandbox is worth. -/
noncomputable def Try.pinned : Pinned := { name := "ytilffjjibcebmaa", sum := "4bc3a7871847fb160d45e8afc758bd9de525f1cc034345fbe114006ce5cc75b3", checked := Try.checked }
namespace Rows
def none {H : Type} : Left H := { results := [], args := [] }

/-- 'armplanlaw16.OverlapExcess': WHATEVER THE INPUT: true; the input reads as it did. -/
def overlapExcessSpec : ChangeSpec := { name := "overlapExcess", fn := fun _ => fun
  | [d1, d2, d3, d4, d5, d6, d7, d8, d9, d10] => { results := [.lit (.bool true)], args := [d1, d2, d3, d4, d5, d6, d7, d8, d9, d10] }
  | _ => none }
def overlapExcessRow : OpenClaim := { program := "ytilffjjibcebmaa", sum := "4bc3a7871847fb160d45e8afc758bd9de525f1cc034345fbe114006ce5cc75b3", func := "armplan/armplanlaw16.OverlapExcess", spec := "overlapExcess", apart := false }
def OverlapExcessSaid : Prop := overlapExcessRow.holds Try.pinned (OpenSpec.ofChange overlapExcessSpec)

/-- ITS FALSE NEIGHBOUR: 'it returns false'. Refute it at one input. -/
def overlapExcessWrong : ChangeSpec := { name := "overlapExcess", fn := fun _ => fun
  | [d1, d2, d3, d4, d5, d6, d7, d8, d9, d10] => { results := [.lit (.bool false)], args := [d1, d2, d3, d4, d5, d6, d7, d8, d9, d10] }
  | _ => none }
def OverlapExcessWrongFalsely : Prop := overlapExcessRow.holds Try.pinned (OpenSpec.ofChange overlapExcessWrong)

/-- 'armplanlaw16.OverlapSwaps': WHATEVER THE INPUT: true; the input reads as it did. -/
def overlapSwapsSpec : ChangeSpec := { name := "overlapSwaps", fn := fun _ => fun
  | [d1, d2, d3, d4, d5] => { results := [.lit (.bool true)], args := [d1, d2, d3, d4, d5] }
  | _ => none }
def overlapSwapsRow : OpenClaim := { program := "ytilffjjibcebmaa", sum := "4bc3a7871847fb160d45e8afc758bd9de525f1cc034345fbe114006ce5cc75b3", func := "armplan/armplanlaw16.OverlapSwaps", spec := "overlapSwaps", apart := false }
def OverlapSwapsSaid : Prop := overlapSwapsRow.holds Try.pinned (OpenSpec.ofChange overlapSwapsSpec)

/-- ITS FALSE NEIGHBOUR: 'it returns false'. Refute it at one input. -/
def overlapSwapsWrong : ChangeSpec := { name := "overlapSwaps", fn := fun _ => fun
  | [d1, d2, d3, d4, d5] => { results := [.lit (.bool false)], args := [d1, d2, d3, d4, d5] }
  | _ => none }
def OverlapSwapsWrongFalsely : Prop := overlapSwapsRow.holds Try.pinned (OpenSpec.ofChange overlapSwapsWrong)

/-- 'armplanlaw16.OverlapMonotone': WHATEVER THE INPUT: true; the input reads as it did. -/
def overlapMonotoneSpec : ChangeSpec := { name := "overlapMonotone", fn := fun _ => fun
  | [d1, d2, d3, d4, d5, d6, d7] => { results := [.lit (.bool true)], args := [d1, d2, d3, d4, d5, d6, d7] }
  | _ => none }
def overlapMonotoneRow : OpenClaim := { program := "ytilffjjibcebmaa", sum := "4bc3a7871847fb160d45e8afc758bd9de525f1cc034345fbe114006ce5cc75b3", func := "armplan/armplanlaw16.OverlapMonotone", spec := "overlapMonotone", apart := false }
def OverlapMonotoneSaid : Prop := overlapMonotoneRow.holds Try.pinned (OpenSpec.ofChange overlapMonotoneSpec)

/-- ITS FALSE NEIGHBOUR: 'it returns false'. Refute it at one input. -/
def overlapMonotoneWrong : ChangeSpec := { name := "overlapMonotone", fn := fun _ => fun
  | [d1, d2, d3, d4, d5, d6, d7] => { results := [.lit (.bool false)], args := [d1, d2, d3, d4, d5, d6, d7] }
  | _ => none }
def OverlapMonotoneWrongFalsely : Prop := overlapMonotoneRow.holds Try.pinned (OpenSpec.ofChange overlapMonotoneWrong)

/-- 'armplanlaw16.OverlapScales': WHATEVER THE INPUT: true; the input reads as it did. -/
def overlapScalesSpec : ChangeSpec := { name := "overlapScales", fn := fun _ => fun
  | [d1, d2, d3, d4, d5, d6] => { results := [.lit (.bool true)], args := [d1, d2, d3, d4, d5, d6] }
  | _ => none }
def overlapScalesRow : OpenClaim := { program := "ytilffjjibcebmaa", sum := "4bc3a7871847fb160d45e8afc758bd9de525f1cc034345fbe114006ce5cc75b3", func := "armplan/armplanlaw16.OverlapScales", spec := "overlapScales", apart := false }
def OverlapScalesSaid : Prop := overlapScalesRow.holds Try.pinned (OpenSpec.ofChange overlapScalesSpec)

/-- ITS FALSE NEIGHBOUR: 'it returns false'. Refute it at one input. -/
def overlapScalesWrong : ChangeSpec := { name := "overlapScales", fn := fun _ => fun
  | [d1, d2, d3, d4, d5, d6] => { results := [.lit (.bool false)], args := [d1, d2, d3, d4, d5, d6] }
  | _ => none }
def OverlapScalesWrongFalsely : Prop := overlapScalesRow.holds Try.pinned (OpenSpec.ofChange overlapScalesWrong)

/-- 'armplanlaw16.OverlapRadius': WHATEVER THE INPUT: true; the input reads as it did. -/
def overlapRadiusSpec : ChangeSpec := { name := "overlapRadius", fn := fun _ => fun
  | [d1, d2, d3, d4, d5, d6] => { results := [.lit (.bool true)], args := [d1, d2, d3, d4, d5, d6] }
  | _ => none }
def overlapRadiusRow : OpenClaim := { program := "ytilffjjibcebmaa", sum := "4bc3a7871847fb160d45e8afc758bd9de525f1cc034345fbe114006ce5cc75b3", func := "armplan/armplanlaw16.OverlapRadius", spec := "overlapRadius", apart := false }
def OverlapRadiusSaid : Prop := overlapRadiusRow.holds Try.pinned (OpenSpec.ofChange overlapRadiusSpec)

/-- ITS FALSE NEIGHBOUR: 'it returns false'. Refute it at one input. -/
def overlapRadiusWrong : ChangeSpec := { name := "overlapRadius", fn := fun _ => fun
  | [d1, d2, d3, d4, d5, d6] => { results := [.lit (.bool false)], args := [d1, d2, d3, d4, d5, d6] }
  | _ => none }
def OverlapRadiusWrongFalsely : Prop := overlapRadiusRow.holds Try.pinned (OpenSpec.ofChange overlapRadiusWrong)

/-- 'armplanlaw16.OverlapSound': WHATEVER THE INPUT: true; the input reads as it did. -/
def overlapSoundSpec : ChangeSpec := { name := "overlapSound", fn := fun _ => fun
  | [d1, d2, d3, d4, d5, d6, d7] => { results := [.lit (.bool true)], args := [d1, d2, d3, d4, d5, d6, d7] }
  | _ => none }
def overlapSoundRow : OpenClaim := { program := "ytilffjjibcebmaa", sum := "4bc3a7871847fb160d45e8afc758bd9de525f1cc034345fbe114006ce5cc75b3", func := "armplan/armplanlaw16.OverlapSound", spec := "overlapSound", apart := false }
def OverlapSoundSaid : Prop := overlapSoundRow.holds Try.pinned (OpenSpec.ofChange overlapSoundSpec)

/-- ITS FALSE NEIGHBOUR: 'it returns false'. Refute it at one input. -/
def overlapSoundWrong : ChangeSpec := { name := "overlapSound", fn := fun _ => fun
  | [d1, d2, d3, d4, d5, d6, d7] => { results := [.lit (.bool false)], args := [d1, d2, d3, d4, d5, d6, d7] }
  | _ => none }
def OverlapSoundWrongFalsely : Prop := overlapSoundRow.holds Try.pinned (OpenSpec.ofChange overlapSoundWrong)

/-- 'armplanlaw16.OverlapExcludes': WHATEVER THE INPUT: true; the input reads as it did. -/
def overlapExcludesSpec : ChangeSpec := { name := "overlapExcludes", fn := fun _ => fun
  | [d1, d2, d3, d4, d5, d6, d7, d8] => { results := [.lit (.bool true)], args := [d1, d2, d3, d4, d5, d6, d7, d8] }
  | _ => none }
def overlapExcludesRow : OpenClaim := { program := "ytilffjjibcebmaa", sum := "4bc3a7871847fb160d45e8afc758bd9de525f1cc034345fbe114006ce5cc75b3", func := "armplan/armplanlaw16.OverlapExcludes", spec := "overlapExcludes", unfollowed := true, recurses := true, apart := false }
def OverlapExcludesSaid : Prop := overlapExcludesRow.holds Try.pinned (OpenSpec.ofChange overlapExcludesSpec)

/-- ITS FALSE NEIGHBOUR: 'it returns false'. Refute it at one input. -/
def overlapExcludesWrong : ChangeSpec := { name := "overlapExcludes", fn := fun _ => fun
  | [d1, d2, d3, d4, d5, d6, d7, d8] => { results := [.lit (.bool false)], args := [d1, d2, d3, d4, d5, d6, d7, d8] }
  | _ => none }
def OverlapExcludesWrongFalsely : Prop := overlapExcludesRow.holds Try.pinned (OpenSpec.ofChange overlapExcludesWrong)

/- THE SECOND FORM. 'bulk': how many values and letters a reading holds, each counted each time it is reached (what is shared counts as often as it is met; a slice's spare places count too). A statement '..UptoSaid' is the law's where the arguments, and the package variables that the reading takes, are together of bulk at most 1048576: NARROWER than '..Said'. Prove '..Said' where nothing that the law and all that it calls make is longer than what came in: it says more and counts as full. Else prove '..UptoSaid'. A law counts once. -/
mutual
def uptoBulk {H : Type} : DataW H → Nat
  | .lit (.string bytes) => bytes.length + 1
  | .lit _ => 1
  | .nil => 1
  | .ptr d => uptoBulk d + 1
  | .slice elems spare => uptoBulkAll elems + uptoBulkAll spare + 1
  | .agg parts => uptoBulkAll parts + 1
  | .iface _ d => uptoBulk d + 1
  | .map entries => uptoBulkEntries entries + 1
  | .held _ => 1
def uptoBulkAll {H : Type} : List (DataW H) → Nat
  | [] => 0
  | d :: r => uptoBulk d + uptoBulkAll r
def uptoBulkEntries {H : Type} : List (Lit × DataW H) → Nat
  | [] => 0
  | x :: r => uptoBulkEntry x + uptoBulkEntries r
def uptoBulkEntry {H : Type} : Lit × DataW H → Nat
  | (.string bytes, d) => bytes.length + uptoBulk d + 1
  | (_, d) => uptoBulk d + 1
 end
def uptoSmall : (H : Type) → List (DataW H) → Bool := fun _ ds => decide (uptoBulkAll ds ≤ 1048576)
def OpenSpec.upto (s : _root_.Go.ChangeSpec) : _root_.Go.OpenSpec := { _root_.Go.OpenSpec.ofChange s with cond := some uptoSmall }

/-- 'armplanlaw16.OverlapExcess', WHERE WHAT IT READS IS OF BULK AT MOST 1048576: true; the input reads as it did. -/
def overlapExcessUptoRow : OpenClaim := { program := "ytilffjjibcebmaa", sum := "4bc3a7871847fb160d45e8afc758bd9de525f1cc034345fbe114006ce5cc75b3", func := "armplan/armplanlaw16.OverlapExcess", spec := "overlapExcess", apart := false, narrowed := true }
def OverlapExcessUptoSaid : Prop := overlapExcessUptoRow.holds Try.pinned (OpenSpec.upto overlapExcessSpec)

/-- 'armplanlaw16.OverlapSwaps', WHERE WHAT IT READS IS OF BULK AT MOST 1048576: true; the input reads as it did. -/
def overlapSwapsUptoRow : OpenClaim := { program := "ytilffjjibcebmaa", sum := "4bc3a7871847fb160d45e8afc758bd9de525f1cc034345fbe114006ce5cc75b3", func := "armplan/armplanlaw16.OverlapSwaps", spec := "overlapSwaps", apart := false, narrowed := true }
def OverlapSwapsUptoSaid : Prop := overlapSwapsUptoRow.holds Try.pinned (OpenSpec.upto overlapSwapsSpec)

/-- 'armplanlaw16.OverlapMonotone', WHERE WHAT IT READS IS OF BULK AT MOST 1048576: true; the input reads as it did. -/
def overlapMonotoneUptoRow : OpenClaim := { program := "ytilffjjibcebmaa", sum := "4bc3a7871847fb160d45e8afc758bd9de525f1cc034345fbe114006ce5cc75b3", func := "armplan/armplanlaw16.OverlapMonotone", spec := "overlapMonotone", apart := false, narrowed := true }
def OverlapMonotoneUptoSaid : Prop := overlapMonotoneUptoRow.holds Try.pinned (OpenSpec.upto overlapMonotoneSpec)

/-- 'armplanlaw16.OverlapScales', WHERE WHAT IT READS IS OF BULK AT MOST 1048576: true; the input reads as it did. -/
def overlapScalesUptoRow : OpenClaim := { program := "ytilffjjibcebmaa", sum := "4bc3a7871847fb160d45e8afc758bd9de525f1cc034345fbe114006ce5cc75b3", func := "armplan/armplanlaw16.OverlapScales", spec := "overlapScales", apart := false, narrowed := true }
def OverlapScalesUptoSaid : Prop := overlapScalesUptoRow.holds Try.pinned (OpenSpec.upto overlapScalesSpec)

/-- 'armplanlaw16.OverlapRadius', WHERE WHAT IT READS IS OF BULK AT MOST 1048576: true; the input reads as it did. -/
def overlapRadiusUptoRow : OpenClaim := { program := "ytilffjjibcebmaa", sum := "4bc3a7871847fb160d45e8afc758bd9de525f1cc034345fbe114006ce5cc75b3", func := "armplan/armplanlaw16.OverlapRadius", spec := "overlapRadius", apart := false, narrowed := true }
def OverlapRadiusUptoSaid : Prop := overlapRadiusUptoRow.holds Try.pinned (OpenSpec.upto overlapRadiusSpec)

/-- 'armplanlaw16.OverlapSound', WHERE WHAT IT READS IS OF BULK AT MOST 1048576: true; the input reads as it did. -/
def overlapSoundUptoRow : OpenClaim := { program := "ytilffjjibcebmaa", sum := "4bc3a7871847fb160d45e8afc758bd9de525f1cc034345fbe114006ce5cc75b3", func := "armplan/armplanlaw16.OverlapSound", spec := "overlapSound", apart := false, narrowed := true }
def OverlapSoundUptoSaid : Prop := overlapSoundUptoRow.holds Try.pinned (OpenSpec.upto overlapSoundSpec)

/-- 'armplanlaw16.OverlapExcludes', WHERE WHAT IT READS IS OF BULK AT MOST 1048576: true; the input reads as it did. -/
def overlapExcludesUptoRow : OpenClaim := { program := "ytilffjjibcebmaa", sum := "4bc3a7871847fb160d45e8afc758bd9de525f1cc034345fbe114006ce5cc75b3", func := "armplan/armplanlaw16.OverlapExcludes", spec := "overlapExcludes", unfollowed := true, recurses := true, apart := false, narrowed := true }
def OverlapExcludesUptoSaid : Prop := overlapExcludesUptoRow.holds Try.pinned (OpenSpec.upto overlapExcludesSpec)

end Rows
end Go.Proofs.Ytilffjjibcebmaa
