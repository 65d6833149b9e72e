/-
  No cell of these rows narrows 'for every input' (looked for: loops, veiled, ifaces, maps, wideKeys, modest, calm, conditions, laid).
  DERIVED. THE GIVEN ROWS OF THIS SEAT. 3 by the template 'for every input the law returns true; each argument reads behind the call as it read before'; 0 by the template 'total and deterministic' (their statements: YtceaambiagobbaaTotals.lean).
  GIVEN WITH THE SEED: the statements are not yours to turn. If you find one false, say at which input.
  Laid BY PROGRAM, IN A SANDBOX (cutbox-rows.mjs): the forced cells as the released guide's own fill.sh prints them over the translation fc815aa0421f5818… (all of the seat's roots in one cut). By AI agents, Wed Nov 11 2026. No macro, syntax, notation, axiom, sorry.
-/
import Derived.Test.YtceaambiagobbaaChecked
import GoSem.Claim
import GoSem.ClaimJoined
import GoSem.ClaimMapViews
import Derived.JoinedTies
import Derived.KernelRfl
namespace Go.Proofs.Ytceaambiagobbaa
/- THE CELL 'sum', in the pinned program and in every row, IS THE sha256 OF THE DUMP (.gsa) THAT YtceaambiagobbaaProg.lean LOADS. Nothing in Lean hashes anything: it is a label: what it is worth is what the hold of that sum in a sandbox is worth. -/
noncomputable def Try.pinned : Pinned := { name := "ytceaambiagobbaa", sum := "fc815aa0421f58185d518a6a248fce995a5b25db2a2dc18fa26c830bcee56bcf", checked := Try.checked }
namespace Rows
def none {H : Type} : Left H := { results := [], args := [] }

/-- 'armplanlaw13.SupportNormals': WHATEVER THE INPUT: true; the input reads as it did. -/
def supportNormalsSpec : ChangeSpec := { name := "supportNormals", fn := fun _ => fun
  | [d1, d2, d3, d4, d5] => { results := [.lit (.bool true)], args := [d1, d2, d3, d4, d5] }
  | _ => none }
def supportNormalsRow : OpenClaim := { program := "ytceaambiagobbaa", sum := "fc815aa0421f58185d518a6a248fce995a5b25db2a2dc18fa26c830bcee56bcf", func := "armplan/armplanlaw13.SupportNormals", spec := "supportNormals", apart := false }
def SupportNormalsSaid : Prop := supportNormalsRow.holds Try.pinned (OpenSpec.ofChange supportNormalsSpec)

/-- ITS FALSE NEIGHBOUR: 'it returns false'. Refute it at one input. -/
def supportNormalsWrong : ChangeSpec := { name := "supportNormals", fn := fun _ => fun
  | [d1, d2, d3, d4, d5] => { results := [.lit (.bool false)], args := [d1, d2, d3, d4, d5] }
  | _ => none }
def SupportNormalsWrongFalsely : Prop := supportNormalsRow.holds Try.pinned (OpenSpec.ofChange supportNormalsWrong)

/-- 'armplanlaw13.SupportNorms': WHATEVER THE INPUT: true; the input reads as it did. -/
def supportNormsSpec : ChangeSpec := { name := "supportNorms", fn := fun _ => fun
  | [d1, d2] => { results := [.lit (.bool true)], args := [d1, d2] }
  | _ => none }
def supportNormsRow : OpenClaim := { program := "ytceaambiagobbaa", sum := "fc815aa0421f58185d518a6a248fce995a5b25db2a2dc18fa26c830bcee56bcf", func := "armplan/armplanlaw13.SupportNorms", spec := "supportNorms", apart := false }
def SupportNormsSaid : Prop := supportNormsRow.holds Try.pinned (OpenSpec.ofChange supportNormsSpec)

/-- ITS FALSE NEIGHBOUR: 'it returns false'. Refute it at one input. -/
def supportNormsWrong : ChangeSpec := { name := "supportNorms", fn := fun _ => fun
  | [d1, d2] => { results := [.lit (.bool false)], args := [d1, d2] }
  | _ => none }
def SupportNormsWrongFalsely : Prop := supportNormsRow.holds Try.pinned (OpenSpec.ofChange supportNormsWrong)

/-- 'armplanlaw13.SupportExtremes': WHATEVER THE INPUT: true; the input reads as it did. -/
def supportExtremesSpec : ChangeSpec := { name := "supportExtremes", fn := fun _ => fun
  | [d1, d2, d3, d4, d5, d6] => { results := [.lit (.bool true)], args := [d1, d2, d3, d4, d5, d6] }
  | _ => none }
def supportExtremesRow : OpenClaim := { program := "ytceaambiagobbaa", sum := "fc815aa0421f58185d518a6a248fce995a5b25db2a2dc18fa26c830bcee56bcf", func := "armplan/armplanlaw13.SupportExtremes", spec := "supportExtremes", unfollowed := true, recurses := true, apart := false }
def SupportExtremesSaid : Prop := supportExtremesRow.holds Try.pinned (OpenSpec.ofChange supportExtremesSpec)

/-- ITS FALSE NEIGHBOUR: 'it returns false'. Refute it at one input. -/
def supportExtremesWrong : ChangeSpec := { name := "supportExtremes", fn := fun _ => fun
  | [d1, d2, d3, d4, d5, d6] => { results := [.lit (.bool false)], args := [d1, d2, d3, d4, d5, d6] }
  | _ => none }
def SupportExtremesWrongFalsely : Prop := supportExtremesRow.holds Try.pinned (OpenSpec.ofChange supportExtremesWrong)

/- THE SECOND FORM. 'bulk': how many values and letters a reading holds, each counted each time it is reached (what is shared counts as often as it is met; a slice's spare places count too). A statement '..UptoSaid' is the law's where the arguments, and the package variables that the reading takes, are together of bulk at most 1048576: NARROWER than '..Said'. Prove '..Said' where nothing that the law and all that it calls make is longer than what came in: it says more and counts as full. Else prove '..UptoSaid'. A law counts once. -/
mutual
def uptoBulk {H : Type} : DataW H → Nat
  | .lit (.string bytes) => bytes.length + 1
  | .lit _ => 1
  | .nil => 1
  | .ptr d => uptoBulk d + 1
  | .slice elems spare => uptoBulkAll elems + uptoBulkAll spare + 1
  | .agg parts => uptoBulkAll parts + 1
  | .iface _ d => uptoBulk d + 1
  | .map entries => uptoBulkEntries entries + 1
  | .held _ => 1
def uptoBulkAll {H : Type} : List (DataW H) → Nat
  | [] => 0
  | d :: r => uptoBulk d + uptoBulkAll r
def uptoBulkEntries {H : Type} : List (Lit × DataW H) → Nat
  | [] => 0
  | x :: r => uptoBulkEntry x + uptoBulkEntries r
def uptoBulkEntry {H : Type} : Lit × DataW H → Nat
  | (.string bytes, d) => bytes.length + uptoBulk d + 1
  | (_, d) => uptoBulk d + 1
 end
def uptoSmall : (H : Type) → List (DataW H) → Bool := fun _ ds => decide (uptoBulkAll ds ≤ 1048576)
def OpenSpec.upto (s : _root_.Go.ChangeSpec) : _root_.Go.OpenSpec := { _root_.Go.OpenSpec.ofChange s with cond := some uptoSmall }

/-- 'armplanlaw13.SupportNormals', WHERE WHAT IT READS IS OF BULK AT MOST 1048576: true; the input reads as it did. -/
def supportNormalsUptoRow : OpenClaim := { program := "ytceaambiagobbaa", sum := "fc815aa0421f58185d518a6a248fce995a5b25db2a2dc18fa26c830bcee56bcf", func := "armplan/armplanlaw13.SupportNormals", spec := "supportNormals", apart := false, narrowed := true }
def SupportNormalsUptoSaid : Prop := supportNormalsUptoRow.holds Try.pinned (OpenSpec.upto supportNormalsSpec)

/-- 'armplanlaw13.SupportNorms', WHERE WHAT IT READS IS OF BULK AT MOST 1048576: true; the input reads as it did. -/
def supportNormsUptoRow : OpenClaim := { program := "ytceaambiagobbaa", sum := "fc815aa0421f58185d518a6a248fce995a5b25db2a2dc18fa26c830bcee56bcf", func := "armplan/armplanlaw13.SupportNorms", spec := "supportNorms", apart := false, narrowed := true }
def SupportNormsUptoSaid : Prop := supportNormsUptoRow.holds Try.pinned (OpenSpec.upto supportNormsSpec)

/-- 'armplanlaw13.SupportExtremes', WHERE WHAT IT READS IS OF BULK AT MOST 1048576: true; the input reads as it did. -/
def supportExtremesUptoRow : OpenClaim := { program := "ytceaambiagobbaa", sum := "fc815aa0421f58185d518a6a248fce995a5b25db2a2dc18fa26c830bcee56bcf", func := "armplan/armplanlaw13.SupportExtremes", spec := "supportExtremes", unfollowed := true, recurses := true, apart := false, narrowed := true }
def SupportExtremesUptoSaid : Prop := supportExtremesUptoRow.holds Try.pinned (OpenSpec.upto supportExtremesSpec)

end Rows
end Go.Proofs.Ytceaambiagobbaa
