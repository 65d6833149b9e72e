/-
  No cell of these rows narrows 'for every input' (looked for: loops, veiled, ifaces, maps, wideKeys, modest, calm, conditions, laid).
  DERIVED. THE GIVEN ROWS OF THIS SEAT. 8 by the template 'for every input the law returns true; each argument reads behind the call as it read before'; 0 by the template 'total and deterministic' (their statements: YtanjfmogmlgphaaTotals.lean).
  GIVEN WITH THE SEED: the statements are not yours to turn. If you find one false, say at which input.
  Laid BY PROGRAM, IN A SANDBOX (cutbox-rows.mjs): the forced cells as the released guide's own fill.sh prints them over the translation b43345f950df407a… (all of the seat's roots in one cut). By AI agents, Wed Nov 11 2026. No macro, syntax, notation, axiom, sorry.
-/
import Derived.Test.YtanjfmogmlgphaaChecked
import GoSem.Claim
import GoSem.ClaimJoined
import GoSem.ClaimMapViews
import Derived.JoinedTies
import Derived.KernelRfl
namespace Go.Proofs.Ytanjfmogmlgphaa
/- THE CELL 'sum', in the pinned program and in every row, IS THE sha256 OF THE DUMP (.gsa) THAT YtanjfmogmlgphaaProg.lean LOADS. Nothing in Lean hashes anything: it is a label: what it is worth is what the hold of that sum in a sandbox is worth. -/
noncomputable def Try.pinned : Pinned := { name := "ytanjfmogmlgphaa", sum := "b43345f950df407aed3df859f61e3cca35cf05fc01d7a21223271aab5a1cf2f1", checked := Try.checked }
namespace Rows
def none {H : Type} : Left H := { results := [], args := [] }

/-- 'armplanlaw15.PlaneMargins': WHATEVER THE INPUT: true; the input reads as it did. -/
def planeMarginsSpec : ChangeSpec := { name := "planeMargins", fn := fun _ => fun
  | [d1, d2, d3, d4, d5, d6, d7, d8, d9, d10, d11] => { results := [.lit (.bool true)], args := [d1, d2, d3, d4, d5, d6, d7, d8, d9, d10, d11] }
  | _ => none }
def planeMarginsRow : OpenClaim := { program := "ytanjfmogmlgphaa", sum := "b43345f950df407aed3df859f61e3cca35cf05fc01d7a21223271aab5a1cf2f1", func := "armplan/armplanlaw15.PlaneMargins", spec := "planeMargins", unfollowed := true, recurses := true, apart := false }
def PlaneMarginsSaid : Prop := planeMarginsRow.holds Try.pinned (OpenSpec.ofChange planeMarginsSpec)

/-- ITS FALSE NEIGHBOUR: 'it returns false'. Refute it at one input. -/
def planeMarginsWrong : ChangeSpec := { name := "planeMargins", fn := fun _ => fun
  | [d1, d2, d3, d4, d5, d6, d7, d8, d9, d10, d11] => { results := [.lit (.bool false)], args := [d1, d2, d3, d4, d5, d6, d7, d8, d9, d10, d11] }
  | _ => none }
def PlaneMarginsWrongFalsely : Prop := planeMarginsRow.holds Try.pinned (OpenSpec.ofChange planeMarginsWrong)

/-- 'armplanlaw15.PlaneFlips': WHATEVER THE INPUT: true; the input reads as it did. -/
def planeFlipsSpec : ChangeSpec := { name := "planeFlips", fn := fun _ => fun
  | [d1, d2, d3, d4, d5, d6, d7] => { results := [.lit (.bool true)], args := [d1, d2, d3, d4, d5, d6, d7] }
  | _ => none }
def planeFlipsRow : OpenClaim := { program := "ytanjfmogmlgphaa", sum := "b43345f950df407aed3df859f61e3cca35cf05fc01d7a21223271aab5a1cf2f1", func := "armplan/armplanlaw15.PlaneFlips", spec := "planeFlips", unfollowed := true, recurses := true, apart := false }
def PlaneFlipsSaid : Prop := planeFlipsRow.holds Try.pinned (OpenSpec.ofChange planeFlipsSpec)

/-- ITS FALSE NEIGHBOUR: 'it returns false'. Refute it at one input. -/
def planeFlipsWrong : ChangeSpec := { name := "planeFlips", fn := fun _ => fun
  | [d1, d2, d3, d4, d5, d6, d7] => { results := [.lit (.bool false)], args := [d1, d2, d3, d4, d5, d6, d7] }
  | _ => none }
def PlaneFlipsWrongFalsely : Prop := planeFlipsRow.holds Try.pinned (OpenSpec.ofChange planeFlipsWrong)

/-- 'armplanlaw15.PlaneMonotone': WHATEVER THE INPUT: true; the input reads as it did. -/
def planeMonotoneSpec : ChangeSpec := { name := "planeMonotone", fn := fun _ => fun
  | [d1, d2, d3, d4, d5, d6, d7, d8, d9] => { results := [.lit (.bool true)], args := [d1, d2, d3, d4, d5, d6, d7, d8, d9] }
  | _ => none }
def planeMonotoneRow : OpenClaim := { program := "ytanjfmogmlgphaa", sum := "b43345f950df407aed3df859f61e3cca35cf05fc01d7a21223271aab5a1cf2f1", func := "armplan/armplanlaw15.PlaneMonotone", spec := "planeMonotone", unfollowed := true, recurses := true, apart := false }
def PlaneMonotoneSaid : Prop := planeMonotoneRow.holds Try.pinned (OpenSpec.ofChange planeMonotoneSpec)

/-- ITS FALSE NEIGHBOUR: 'it returns false'. Refute it at one input. -/
def planeMonotoneWrong : ChangeSpec := { name := "planeMonotone", fn := fun _ => fun
  | [d1, d2, d3, d4, d5, d6, d7, d8, d9] => { results := [.lit (.bool false)], args := [d1, d2, d3, d4, d5, d6, d7, d8, d9] }
  | _ => none }
def PlaneMonotoneWrongFalsely : Prop := planeMonotoneRow.holds Try.pinned (OpenSpec.ofChange planeMonotoneWrong)

/-- 'armplanlaw15.PlaneMoves': WHATEVER THE INPUT: true; the input reads as it did. -/
def planeMovesSpec : ChangeSpec := { name := "planeMoves", fn := fun _ => fun
  | [d1, d2, d3, d4, d5, d6, d7, d8] => { results := [.lit (.bool true)], args := [d1, d2, d3, d4, d5, d6, d7, d8] }
  | _ => none }
def planeMovesRow : OpenClaim := { program := "ytanjfmogmlgphaa", sum := "b43345f950df407aed3df859f61e3cca35cf05fc01d7a21223271aab5a1cf2f1", func := "armplan/armplanlaw15.PlaneMoves", spec := "planeMoves", unfollowed := true, recurses := true, apart := false }
def PlaneMovesSaid : Prop := planeMovesRow.holds Try.pinned (OpenSpec.ofChange planeMovesSpec)

/-- ITS FALSE NEIGHBOUR: 'it returns false'. Refute it at one input. -/
def planeMovesWrong : ChangeSpec := { name := "planeMoves", fn := fun _ => fun
  | [d1, d2, d3, d4, d5, d6, d7, d8] => { results := [.lit (.bool false)], args := [d1, d2, d3, d4, d5, d6, d7, d8] }
  | _ => none }
def PlaneMovesWrongFalsely : Prop := planeMovesRow.holds Try.pinned (OpenSpec.ofChange planeMovesWrong)

/-- 'armplanlaw15.PlaneRadius': WHATEVER THE INPUT: true; the input reads as it did. -/
def planeRadiusSpec : ChangeSpec := { name := "planeRadius", fn := fun _ => fun
  | [d1, d2, d3, d4, d5, d6, d7, d8] => { results := [.lit (.bool true)], args := [d1, d2, d3, d4, d5, d6, d7, d8] }
  | _ => none }
def planeRadiusRow : OpenClaim := { program := "ytanjfmogmlgphaa", sum := "b43345f950df407aed3df859f61e3cca35cf05fc01d7a21223271aab5a1cf2f1", func := "armplan/armplanlaw15.PlaneRadius", spec := "planeRadius", unfollowed := true, recurses := true, apart := false }
def PlaneRadiusSaid : Prop := planeRadiusRow.holds Try.pinned (OpenSpec.ofChange planeRadiusSpec)

/-- ITS FALSE NEIGHBOUR: 'it returns false'. Refute it at one input. -/
def planeRadiusWrong : ChangeSpec := { name := "planeRadius", fn := fun _ => fun
  | [d1, d2, d3, d4, d5, d6, d7, d8] => { results := [.lit (.bool false)], args := [d1, d2, d3, d4, d5, d6, d7, d8] }
  | _ => none }
def PlaneRadiusWrongFalsely : Prop := planeRadiusRow.holds Try.pinned (OpenSpec.ofChange planeRadiusWrong)

/-- 'armplanlaw15.PlaneSound': WHATEVER THE INPUT: true; the input reads as it did. -/
def planeSoundSpec : ChangeSpec := { name := "planeSound", fn := fun _ => fun
  | [d1, d2, d3, d4, d5, d6, d7, d8, d9, d10, d11] => { results := [.lit (.bool true)], args := [d1, d2, d3, d4, d5, d6, d7, d8, d9, d10, d11] }
  | _ => none }
def planeSoundRow : OpenClaim := { program := "ytanjfmogmlgphaa", sum := "b43345f950df407aed3df859f61e3cca35cf05fc01d7a21223271aab5a1cf2f1", func := "armplan/armplanlaw15.PlaneSound", spec := "planeSound", unfollowed := true, recurses := true, apart := false }
def PlaneSoundSaid : Prop := planeSoundRow.holds Try.pinned (OpenSpec.ofChange planeSoundSpec)

/-- ITS FALSE NEIGHBOUR: 'it returns false'. Refute it at one input. -/
def planeSoundWrong : ChangeSpec := { name := "planeSound", fn := fun _ => fun
  | [d1, d2, d3, d4, d5, d6, d7, d8, d9, d10, d11] => { results := [.lit (.bool false)], args := [d1, d2, d3, d4, d5, d6, d7, d8, d9, d10, d11] }
  | _ => none }
def PlaneSoundWrongFalsely : Prop := planeSoundRow.holds Try.pinned (OpenSpec.ofChange planeSoundWrong)

/-- 'armplanlaw15.PlaneNever': WHATEVER THE INPUT: true; the input reads as it did. -/
def planeNeverSpec : ChangeSpec := { name := "planeNever", fn := fun _ => fun
  | [d1, d2, d3, d4, d5, d6, d7, d8] => { results := [.lit (.bool true)], args := [d1, d2, d3, d4, d5, d6, d7, d8] }
  | _ => none }
def planeNeverRow : OpenClaim := { program := "ytanjfmogmlgphaa", sum := "b43345f950df407aed3df859f61e3cca35cf05fc01d7a21223271aab5a1cf2f1", func := "armplan/armplanlaw15.PlaneNever", spec := "planeNever", unfollowed := true, recurses := true, apart := false }
def PlaneNeverSaid : Prop := planeNeverRow.holds Try.pinned (OpenSpec.ofChange planeNeverSpec)

/-- ITS FALSE NEIGHBOUR: 'it returns false'. Refute it at one input. -/
def planeNeverWrong : ChangeSpec := { name := "planeNever", fn := fun _ => fun
  | [d1, d2, d3, d4, d5, d6, d7, d8] => { results := [.lit (.bool false)], args := [d1, d2, d3, d4, d5, d6, d7, d8] }
  | _ => none }
def PlaneNeverWrongFalsely : Prop := planeNeverRow.holds Try.pinned (OpenSpec.ofChange planeNeverWrong)

/-- 'armplanlaw15.PlaneFirst': WHATEVER THE INPUT: true; the input reads as it did. -/
def planeFirstSpec : ChangeSpec := { name := "planeFirst", fn := fun _ => fun
  | [d1, d2, d3, d4, d5, d6] => { results := [.lit (.bool true)], args := [d1, d2, d3, d4, d5, d6] }
  | _ => none }
def planeFirstRow : OpenClaim := { program := "ytanjfmogmlgphaa", sum := "b43345f950df407aed3df859f61e3cca35cf05fc01d7a21223271aab5a1cf2f1", func := "armplan/armplanlaw15.PlaneFirst", spec := "planeFirst", unfollowed := true, recurses := true, apart := false }
def PlaneFirstSaid : Prop := planeFirstRow.holds Try.pinned (OpenSpec.ofChange planeFirstSpec)

/-- ITS FALSE NEIGHBOUR: 'it returns false'. Refute it at one input. -/
def planeFirstWrong : ChangeSpec := { name := "planeFirst", fn := fun _ => fun
  | [d1, d2, d3, d4, d5, d6] => { results := [.lit (.bool false)], args := [d1, d2, d3, d4, d5, d6] }
  | _ => none }
def PlaneFirstWrongFalsely : Prop := planeFirstRow.holds Try.pinned (OpenSpec.ofChange planeFirstWrong)

/- THE SECOND FORM. 'bulk': how many values and letters a reading holds, each counted each time it is reached (what is shared counts as often as it is met; a slice's spare places count too). A statement '..UptoSaid' is the law's where the arguments, and the package variables that the reading takes, are together of bulk at most 1048576: NARROWER than '..Said'. Prove '..Said' where nothing that the law and all that it calls make is longer than what came in: it says more and counts as full. Else prove '..UptoSaid'. A law counts once. -/
mutual
def uptoBulk {H : Type} : DataW H → Nat
  | .lit (.string bytes) => bytes.length + 1
  | .lit _ => 1
  | .nil => 1
  | .ptr d => uptoBulk d + 1
  | .slice elems spare => uptoBulkAll elems + uptoBulkAll spare + 1
  | .agg parts => uptoBulkAll parts + 1
  | .iface _ d => uptoBulk d + 1
  | .map entries => uptoBulkEntries entries + 1
  | .held _ => 1
def uptoBulkAll {H : Type} : List (DataW H) → Nat
  | [] => 0
  | d :: r => uptoBulk d + uptoBulkAll r
def uptoBulkEntries {H : Type} : List (Lit × DataW H) → Nat
  | [] => 0
  | x :: r => uptoBulkEntry x + uptoBulkEntries r
def uptoBulkEntry {H : Type} : Lit × DataW H → Nat
  | (.string bytes, d) => bytes.length + uptoBulk d + 1
  | (_, d) => uptoBulk d + 1
 end
def uptoSmall : (H : Type) → List (DataW H) → Bool := fun _ ds => decide (uptoBulkAll ds ≤ 1048576)
def OpenSpec.upto (s : _root_.Go.ChangeSpec) : _root_.Go.OpenSpec := { _root_.Go.OpenSpec.ofChange s with cond := some uptoSmall }

/-- 'armplanlaw15.PlaneMargins', WHERE WHAT IT READS IS OF BULK AT MOST 1048576: true; the input reads as it did. -/
def planeMarginsUptoRow : OpenClaim := { program := "ytanjfmogmlgphaa", sum := "b43345f950df407aed3df859f61e3cca35cf05fc01d7a21223271aab5a1cf2f1", func := "armplan/armplanlaw15.PlaneMargins", spec := "planeMargins", unfollowed := true, recurses := true, apart := false, narrowed := true }
def PlaneMarginsUptoSaid : Prop := planeMarginsUptoRow.holds Try.pinned (OpenSpec.upto planeMarginsSpec)

/-- 'armplanlaw15.PlaneFlips', WHERE WHAT IT READS IS OF BULK AT MOST 1048576: true; the input reads as it did. -/
def planeFlipsUptoRow : OpenClaim := { program := "ytanjfmogmlgphaa", sum := "b43345f950df407aed3df859f61e3cca35cf05fc01d7a21223271aab5a1cf2f1", func := "armplan/armplanlaw15.PlaneFlips", spec := "planeFlips", unfollowed := true, recurses := true, apart := false, narrowed := true }
def PlaneFlipsUptoSaid : Prop := planeFlipsUptoRow.holds Try.pinned (OpenSpec.upto planeFlipsSpec)

/-- 'armplanlaw15.PlaneMonotone', WHERE WHAT IT READS IS OF BULK AT MOST 1048576: true; the input reads as it did. -/
def planeMonotoneUptoRow : OpenClaim := { program := "ytanjfmogmlgphaa", sum := "b43345f950df407aed3df859f61e3cca35cf05fc01d7a21223271aab5a1cf2f1", func := "armplan/armplanlaw15.PlaneMonotone", spec := "planeMonotone", unfollowed := true, recurses := true, apart := false, narrowed := true }
def PlaneMonotoneUptoSaid : Prop := planeMonotoneUptoRow.holds Try.pinned (OpenSpec.upto planeMonotoneSpec)

/-- 'armplanlaw15.PlaneMoves', WHERE WHAT IT READS IS OF BULK AT MOST 1048576: true; the input reads as it did. -/
def planeMovesUptoRow : OpenClaim := { program := "ytanjfmogmlgphaa", sum := "b43345f950df407aed3df859f61e3cca35cf05fc01d7a21223271aab5a1cf2f1", func := "armplan/armplanlaw15.PlaneMoves", spec := "planeMoves", unfollowed := true, recurses := true, apart := false, narrowed := true }
def PlaneMovesUptoSaid : Prop := planeMovesUptoRow.holds Try.pinned (OpenSpec.upto planeMovesSpec)

/-- 'armplanlaw15.PlaneRadius', WHERE WHAT IT READS IS OF BULK AT MOST 1048576: true; the input reads as it did. -/
def planeRadiusUptoRow : OpenClaim := { program := "ytanjfmogmlgphaa", sum := "b43345f950df407aed3df859f61e3cca35cf05fc01d7a21223271aab5a1cf2f1", func := "armplan/armplanlaw15.PlaneRadius", spec := "planeRadius", unfollowed := true, recurses := true, apart := false, narrowed := true }
def PlaneRadiusUptoSaid : Prop := planeRadiusUptoRow.holds Try.pinned (OpenSpec.upto planeRadiusSpec)

/-- 'armplanlaw15.PlaneSound', WHERE WHAT IT READS IS OF BULK AT MOST 1048576: true; the input reads as it did. -/
def planeSoundUptoRow : OpenClaim := { program := "ytanjfmogmlgphaa", sum := "b43345f950df407aed3df859f61e3cca35cf05fc01d7a21223271aab5a1cf2f1", func := "armplan/armplanlaw15.PlaneSound", spec := "planeSound", unfollowed := true, recurses := true, apart := false, narrowed := true }
def PlaneSoundUptoSaid : Prop := planeSoundUptoRow.holds Try.pinned (OpenSpec.upto planeSoundSpec)

/-- 'armplanlaw15.PlaneNever', WHERE WHAT IT READS IS OF BULK AT MOST 1048576: true; the input reads as it did. -/
def planeNeverUptoRow : OpenClaim := { program := "ytanjfmogmlgphaa", sum := "b43345f950df407aed3df859f61e3cca35cf05fc01d7a21223271aab5a1cf2f1", func := "armplan/armplanlaw15.PlaneNever", spec := "planeNever", unfollowed := true, recurses := true, apart := false, narrowed := true }
def PlaneNeverUptoSaid : Prop := planeNeverUptoRow.holds Try.pinned (OpenSpec.upto planeNeverSpec)

/-- 'armplanlaw15.PlaneFirst', WHERE WHAT IT READS IS OF BULK AT MOST 1048576: true; the input reads as it did. -/
def planeFirstUptoRow : OpenClaim := { program := "ytanjfmogmlgphaa", sum := "b43345f950df407aed3df859f61e3cca35cf05fc01d7a21223271aab5a1cf2f1", func := "armplan/armplanlaw15.PlaneFirst", spec := "planeFirst", unfollowed := true, recurses := true, apart := false, narrowed := true }
def PlaneFirstUptoSaid : Prop := planeFirstUptoRow.holds Try.pinned (OpenSpec.upto planeFirstSpec)

end Rows
end Go.Proofs.Ytanjfmogmlgphaa
