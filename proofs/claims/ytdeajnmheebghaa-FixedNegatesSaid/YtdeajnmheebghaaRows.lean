/-
  No cell of these rows narrows 'for every input' (looked for: loops, veiled, ifaces, maps, wideKeys, modest, calm, conditions, laid).
  DERIVED. THE GIVEN ROWS OF THIS SEAT. 9 by the template 'for every input the law returns true; each argument reads behind the call as it read before'; 0 by the template 'total and deterministic' (their statements: YtdeajnmheebghaaTotals.lean).
  GIVEN WITH THE SEED: the statements are not yours to turn. If you find one false, say at which input.
  Laid BY PROGRAM, IN A SANDBOX (cutbox-rows.mjs): the forced cells as the released guide's own fill.sh prints them over the translation 08db43c69a5cf8e8… (all of the seat's roots in one cut). By AI agents, Wed Nov 11 2026. No macro, syntax, notation, axiom, sorry.
-/
import Derived.Test.YtdeajnmheebghaaChecked
import GoSem.Claim
import GoSem.ClaimJoined
import GoSem.ClaimMapViews
import Derived.JoinedTies
import Derived.KernelRfl
namespace Go.Proofs.Ytdeajnmheebghaa
/- THE CELL 'sum', in the pinned program and in every row, IS THE sha256 OF THE DUMP (.gsa) THAT YtdeajnmheebghaaProg.lean LOADS. Nothing in Lean hashes anything: it is a label: what it is worth is what the hold of that sum in a sandbox is worth. -/
noncomputable def Try.pinned : Pinned := { name := "ytdeajnmheebghaa", sum := "08db43c69a5cf8e867d26b93353a82f455320b3e42e1465808616af6103cb2ab", checked := Try.checked }
namespace Rows
def none {H : Type} : Left H := { results := [], args := [] }

/-- 'armplanlaw1.FixedSquares': WHATEVER THE INPUT: true; the input reads as it did. -/
def fixedSquaresSpec : ChangeSpec := { name := "fixedSquares", fn := fun _ => fun
  | [d1, d2] => { results := [.lit (.bool true)], args := [d1, d2] }
  | _ => none }
def fixedSquaresRow : OpenClaim := { program := "ytdeajnmheebghaa", sum := "08db43c69a5cf8e867d26b93353a82f455320b3e42e1465808616af6103cb2ab", func := "armplan/armplanlaw1.FixedSquares", spec := "fixedSquares", apart := false }
def FixedSquaresSaid : Prop := fixedSquaresRow.holds Try.pinned (OpenSpec.ofChange fixedSquaresSpec)

/-- ITS FALSE NEIGHBOUR: 'it returns false'. Refute it at one input. -/
def fixedSquaresWrong : ChangeSpec := { name := "fixedSquares", fn := fun _ => fun
  | [d1, d2] => { results := [.lit (.bool false)], args := [d1, d2] }
  | _ => none }
def FixedSquaresWrongFalsely : Prop := fixedSquaresRow.holds Try.pinned (OpenSpec.ofChange fixedSquaresWrong)

/-- 'armplanlaw1.FixedShifts': WHATEVER THE INPUT: true; the input reads as it did. -/
def fixedShiftsSpec : ChangeSpec := { name := "fixedShifts", fn := fun _ => fun
  | [d1, d2, d3, d4] => { results := [.lit (.bool true)], args := [d1, d2, d3, d4] }
  | _ => none }
def fixedShiftsRow : OpenClaim := { program := "ytdeajnmheebghaa", sum := "08db43c69a5cf8e867d26b93353a82f455320b3e42e1465808616af6103cb2ab", func := "armplan/armplanlaw1.FixedShifts", spec := "fixedShifts", apart := false }
def FixedShiftsSaid : Prop := fixedShiftsRow.holds Try.pinned (OpenSpec.ofChange fixedShiftsSpec)

/-- ITS FALSE NEIGHBOUR: 'it returns false'. Refute it at one input. -/
def fixedShiftsWrong : ChangeSpec := { name := "fixedShifts", fn := fun _ => fun
  | [d1, d2, d3, d4] => { results := [.lit (.bool false)], args := [d1, d2, d3, d4] }
  | _ => none }
def FixedShiftsWrongFalsely : Prop := fixedShiftsRow.holds Try.pinned (OpenSpec.ofChange fixedShiftsWrong)

/-- 'armplanlaw1.FixedProducts': WHATEVER THE INPUT: true; the input reads as it did. -/
def fixedProductsSpec : ChangeSpec := { name := "fixedProducts", fn := fun _ => fun
  | [d1, d2, d3] => { results := [.lit (.bool true)], args := [d1, d2, d3] }
  | _ => none }
def fixedProductsRow : OpenClaim := { program := "ytdeajnmheebghaa", sum := "08db43c69a5cf8e867d26b93353a82f455320b3e42e1465808616af6103cb2ab", func := "armplan/armplanlaw1.FixedProducts", spec := "fixedProducts", apart := false }
def FixedProductsSaid : Prop := fixedProductsRow.holds Try.pinned (OpenSpec.ofChange fixedProductsSpec)

/-- ITS FALSE NEIGHBOUR: 'it returns false'. Refute it at one input. -/
def fixedProductsWrong : ChangeSpec := { name := "fixedProducts", fn := fun _ => fun
  | [d1, d2, d3] => { results := [.lit (.bool false)], args := [d1, d2, d3] }
  | _ => none }
def FixedProductsWrongFalsely : Prop := fixedProductsRow.holds Try.pinned (OpenSpec.ofChange fixedProductsWrong)

/-- 'armplanlaw1.FixedRoundings': WHATEVER THE INPUT: true; the input reads as it did. -/
def fixedRoundingsSpec : ChangeSpec := { name := "fixedRoundings", fn := fun _ => fun
  | [d1, d2, d3] => { results := [.lit (.bool true)], args := [d1, d2, d3] }
  | _ => none }
def fixedRoundingsRow : OpenClaim := { program := "ytdeajnmheebghaa", sum := "08db43c69a5cf8e867d26b93353a82f455320b3e42e1465808616af6103cb2ab", func := "armplan/armplanlaw1.FixedRoundings", spec := "fixedRoundings", apart := false }
def FixedRoundingsSaid : Prop := fixedRoundingsRow.holds Try.pinned (OpenSpec.ofChange fixedRoundingsSpec)

/-- ITS FALSE NEIGHBOUR: 'it returns false'. Refute it at one input. -/
def fixedRoundingsWrong : ChangeSpec := { name := "fixedRoundings", fn := fun _ => fun
  | [d1, d2, d3] => { results := [.lit (.bool false)], args := [d1, d2, d3] }
  | _ => none }
def FixedRoundingsWrongFalsely : Prop := fixedRoundingsRow.holds Try.pinned (OpenSpec.ofChange fixedRoundingsWrong)

/-- 'armplanlaw1.FixedMonotone': WHATEVER THE INPUT: true; the input reads as it did. -/
def fixedMonotoneSpec : ChangeSpec := { name := "fixedMonotone", fn := fun _ => fun
  | [d1, d2, d3, d4] => { results := [.lit (.bool true)], args := [d1, d2, d3, d4] }
  | _ => none }
def fixedMonotoneRow : OpenClaim := { program := "ytdeajnmheebghaa", sum := "08db43c69a5cf8e867d26b93353a82f455320b3e42e1465808616af6103cb2ab", func := "armplan/armplanlaw1.FixedMonotone", spec := "fixedMonotone", apart := false }
def FixedMonotoneSaid : Prop := fixedMonotoneRow.holds Try.pinned (OpenSpec.ofChange fixedMonotoneSpec)

/-- ITS FALSE NEIGHBOUR: 'it returns false'. Refute it at one input. -/
def fixedMonotoneWrong : ChangeSpec := { name := "fixedMonotone", fn := fun _ => fun
  | [d1, d2, d3, d4] => { results := [.lit (.bool false)], args := [d1, d2, d3, d4] }
  | _ => none }
def FixedMonotoneWrongFalsely : Prop := fixedMonotoneRow.holds Try.pinned (OpenSpec.ofChange fixedMonotoneWrong)

/-- 'armplanlaw1.FixedRoots': WHATEVER THE INPUT: true; the input reads as it did. -/
def fixedRootsSpec : ChangeSpec := { name := "fixedRoots", fn := fun _ => fun
  | [d1, d2] => { results := [.lit (.bool true)], args := [d1, d2] }
  | _ => none }
def fixedRootsRow : OpenClaim := { program := "ytdeajnmheebghaa", sum := "08db43c69a5cf8e867d26b93353a82f455320b3e42e1465808616af6103cb2ab", func := "armplan/armplanlaw1.FixedRoots", spec := "fixedRoots", apart := false }
def FixedRootsSaid : Prop := fixedRootsRow.holds Try.pinned (OpenSpec.ofChange fixedRootsSpec)

/-- ITS FALSE NEIGHBOUR: 'it returns false'. Refute it at one input. -/
def fixedRootsWrong : ChangeSpec := { name := "fixedRoots", fn := fun _ => fun
  | [d1, d2] => { results := [.lit (.bool false)], args := [d1, d2] }
  | _ => none }
def FixedRootsWrongFalsely : Prop := fixedRootsRow.holds Try.pinned (OpenSpec.ofChange fixedRootsWrong)

/-- 'armplanlaw1.FixedInverse': WHATEVER THE INPUT: true; the input reads as it did. -/
def fixedInverseSpec : ChangeSpec := { name := "fixedInverse", fn := fun _ => fun
  | [d1, d2, d3] => { results := [.lit (.bool true)], args := [d1, d2, d3] }
  | _ => none }
def fixedInverseRow : OpenClaim := { program := "ytdeajnmheebghaa", sum := "08db43c69a5cf8e867d26b93353a82f455320b3e42e1465808616af6103cb2ab", func := "armplan/armplanlaw1.FixedInverse", spec := "fixedInverse", apart := false }
def FixedInverseSaid : Prop := fixedInverseRow.holds Try.pinned (OpenSpec.ofChange fixedInverseSpec)

/-- ITS FALSE NEIGHBOUR: 'it returns false'. Refute it at one input. -/
def fixedInverseWrong : ChangeSpec := { name := "fixedInverse", fn := fun _ => fun
  | [d1, d2, d3] => { results := [.lit (.bool false)], args := [d1, d2, d3] }
  | _ => none }
def FixedInverseWrongFalsely : Prop := fixedInverseRow.holds Try.pinned (OpenSpec.ofChange fixedInverseWrong)

/-- 'armplanlaw1.FixedQuotients': WHATEVER THE INPUT: true; the input reads as it did. -/
def fixedQuotientsSpec : ChangeSpec := { name := "fixedQuotients", fn := fun _ => fun
  | [d1, d2, d3] => { results := [.lit (.bool true)], args := [d1, d2, d3] }
  | _ => none }
def fixedQuotientsRow : OpenClaim := { program := "ytdeajnmheebghaa", sum := "08db43c69a5cf8e867d26b93353a82f455320b3e42e1465808616af6103cb2ab", func := "armplan/armplanlaw1.FixedQuotients", spec := "fixedQuotients", apart := false }
def FixedQuotientsSaid : Prop := fixedQuotientsRow.holds Try.pinned (OpenSpec.ofChange fixedQuotientsSpec)

/-- ITS FALSE NEIGHBOUR: 'it returns false'. Refute it at one input. -/
def fixedQuotientsWrong : ChangeSpec := { name := "fixedQuotients", fn := fun _ => fun
  | [d1, d2, d3] => { results := [.lit (.bool false)], args := [d1, d2, d3] }
  | _ => none }
def FixedQuotientsWrongFalsely : Prop := fixedQuotientsRow.holds Try.pinned (OpenSpec.ofChange fixedQuotientsWrong)

/-- 'armplanlaw1.FixedNegates': WHATEVER THE INPUT: true; the input reads as it did. -/
def fixedNegatesSpec : ChangeSpec := { name := "fixedNegates", fn := fun _ => fun
  | [d1, d2, d3] => { results := [.lit (.bool true)], args := [d1, d2, d3] }
  | _ => none }
def fixedNegatesRow : OpenClaim := { program := "ytdeajnmheebghaa", sum := "08db43c69a5cf8e867d26b93353a82f455320b3e42e1465808616af6103cb2ab", func := "armplan/armplanlaw1.FixedNegates", spec := "fixedNegates", apart := false }
def FixedNegatesSaid : Prop := fixedNegatesRow.holds Try.pinned (OpenSpec.ofChange fixedNegatesSpec)

/-- ITS FALSE NEIGHBOUR: 'it returns false'. Refute it at one input. -/
def fixedNegatesWrong : ChangeSpec := { name := "fixedNegates", fn := fun _ => fun
  | [d1, d2, d3] => { results := [.lit (.bool false)], args := [d1, d2, d3] }
  | _ => none }
def FixedNegatesWrongFalsely : Prop := fixedNegatesRow.holds Try.pinned (OpenSpec.ofChange fixedNegatesWrong)

/- THE SECOND FORM. 'bulk': how many values and letters a reading holds, each counted each time it is reached (what is shared counts as often as it is met; a slice's spare places count too). A statement '..UptoSaid' is the law's where the arguments, and the package variables that the reading takes, are together of bulk at most 1048576: NARROWER than '..Said'. Prove '..Said' where nothing that the law and all that it calls make is longer than what came in: it says more and counts as full. Else prove '..UptoSaid'. A law counts once. -/
mutual
def uptoBulk {H : Type} : DataW H → Nat
  | .lit (.string bytes) => bytes.length + 1
  | .lit _ => 1
  | .nil => 1
  | .ptr d => uptoBulk d + 1
  | .slice elems spare => uptoBulkAll elems + uptoBulkAll spare + 1
  | .agg parts => uptoBulkAll parts + 1
  | .iface _ d => uptoBulk d + 1
  | .map entries => uptoBulkEntries entries + 1
  | .held _ => 1
def uptoBulkAll {H : Type} : List (DataW H) → Nat
  | [] => 0
  | d :: r => uptoBulk d + uptoBulkAll r
def uptoBulkEntries {H : Type} : List (Lit × DataW H) → Nat
  | [] => 0
  | x :: r => uptoBulkEntry x + uptoBulkEntries r
def uptoBulkEntry {H : Type} : Lit × DataW H → Nat
  | (.string bytes, d) => bytes.length + uptoBulk d + 1
  | (_, d) => uptoBulk d + 1
 end
def uptoSmall : (H : Type) → List (DataW H) → Bool := fun _ ds => decide (uptoBulkAll ds ≤ 1048576)
def OpenSpec.upto (s : _root_.Go.ChangeSpec) : _root_.Go.OpenSpec := { _root_.Go.OpenSpec.ofChange s with cond := some uptoSmall }

/-- 'armplanlaw1.FixedSquares', WHERE WHAT IT READS IS OF BULK AT MOST 1048576: true; the input reads as it did. -/
def fixedSquaresUptoRow : OpenClaim := { program := "ytdeajnmheebghaa", sum := "08db43c69a5cf8e867d26b93353a82f455320b3e42e1465808616af6103cb2ab", func := "armplan/armplanlaw1.FixedSquares", spec := "fixedSquares", apart := false, narrowed := true }
def FixedSquaresUptoSaid : Prop := fixedSquaresUptoRow.holds Try.pinned (OpenSpec.upto fixedSquaresSpec)

/-- 'armplanlaw1.FixedShifts', WHERE WHAT IT READS IS OF BULK AT MOST 1048576: true; the input reads as it did. -/
def fixedShiftsUptoRow : OpenClaim := { program := "ytdeajnmheebghaa", sum := "08db43c69a5cf8e867d26b93353a82f455320b3e42e1465808616af6103cb2ab", func := "armplan/armplanlaw1.FixedShifts", spec := "fixedShifts", apart := false, narrowed := true }
def FixedShiftsUptoSaid : Prop := fixedShiftsUptoRow.holds Try.pinned (OpenSpec.upto fixedShiftsSpec)

/-- 'armplanlaw1.FixedProducts', WHERE WHAT IT READS IS OF BULK AT MOST 1048576: true; the input reads as it did. -/
def fixedProductsUptoRow : OpenClaim := { program := "ytdeajnmheebghaa", sum := "08db43c69a5cf8e867d26b93353a82f455320b3e42e1465808616af6103cb2ab", func := "armplan/armplanlaw1.FixedProducts", spec := "fixedProducts", apart := false, narrowed := true }
def FixedProductsUptoSaid : Prop := fixedProductsUptoRow.holds Try.pinned (OpenSpec.upto fixedProductsSpec)

/-- 'armplanlaw1.FixedRoundings', WHERE WHAT IT READS IS OF BULK AT MOST 1048576: true; the input reads as it did. -/
def fixedRoundingsUptoRow : OpenClaim := { program := "ytdeajnmheebghaa", sum := "08db43c69a5cf8e867d26b93353a82f455320b3e42e1465808616af6103cb2ab", func := "armplan/armplanlaw1.FixedRoundings", spec := "fixedRoundings", apart := false, narrowed := true }
def FixedRoundingsUptoSaid : Prop := fixedRoundingsUptoRow.holds Try.pinned (OpenSpec.upto fixedRoundingsSpec)

/-- 'armplanlaw1.FixedMonotone', WHERE WHAT IT READS IS OF BULK AT MOST 1048576: true; the input reads as it did. -/
def fixedMonotoneUptoRow : OpenClaim := { program := "ytdeajnmheebghaa", sum := "08db43c69a5cf8e867d26b93353a82f455320b3e42e1465808616af6103cb2ab", func := "armplan/armplanlaw1.FixedMonotone", spec := "fixedMonotone", apart := false, narrowed := true }
def FixedMonotoneUptoSaid : Prop := fixedMonotoneUptoRow.holds Try.pinned (OpenSpec.upto fixedMonotoneSpec)

/-- 'armplanlaw1.FixedRoots', WHERE WHAT IT READS IS OF BULK AT MOST 1048576: true; the input reads as it did. -/
def fixedRootsUptoRow : OpenClaim := { program := "ytdeajnmheebghaa", sum := "08db43c69a5cf8e867d26b93353a82f455320b3e42e1465808616af6103cb2ab", func := "armplan/armplanlaw1.FixedRoots", spec := "fixedRoots", apart := false, narrowed := true }
def FixedRootsUptoSaid : Prop := fixedRootsUptoRow.holds Try.pinned (OpenSpec.upto fixedRootsSpec)

/-- 'armplanlaw1.FixedInverse', WHERE WHAT IT READS IS OF BULK AT MOST 1048576: true; the input reads as it did. -/
def fixedInverseUptoRow : OpenClaim := { program := "ytdeajnmheebghaa", sum := "08db43c69a5cf8e867d26b93353a82f455320b3e42e1465808616af6103cb2ab", func := "armplan/armplanlaw1.FixedInverse", spec := "fixedInverse", apart := false, narrowed := true }
def FixedInverseUptoSaid : Prop := fixedInverseUptoRow.holds Try.pinned (OpenSpec.upto fixedInverseSpec)

/-- 'armplanlaw1.FixedQuotients', WHERE WHAT IT READS IS OF BULK AT MOST 1048576: true; the input reads as it did. -/
def fixedQuotientsUptoRow : OpenClaim := { program := "ytdeajnmheebghaa", sum := "08db43c69a5cf8e867d26b93353a82f455320b3e42e1465808616af6103cb2ab", func := "armplan/armplanlaw1.FixedQuotients", spec := "fixedQuotients", apart := false, narrowed := true }
def FixedQuotientsUptoSaid : Prop := fixedQuotientsUptoRow.holds Try.pinned (OpenSpec.upto fixedQuotientsSpec)

/-- 'armplanlaw1.FixedNegates', WHERE WHAT IT READS IS OF BULK AT MOST 1048576: true; the input reads as it did. -/
def fixedNegatesUptoRow : OpenClaim := { program := "ytdeajnmheebghaa", sum := "08db43c69a5cf8e867d26b93353a82f455320b3e42e1465808616af6103cb2ab", func := "armplan/armplanlaw1.FixedNegates", spec := "fixedNegates", apart := false, narrowed := true }
def FixedNegatesUptoSaid : Prop := fixedNegatesUptoRow.holds Try.pinned (OpenSpec.upto fixedNegatesSpec)

end Rows
end Go.Proofs.Ytdeajnmheebghaa
