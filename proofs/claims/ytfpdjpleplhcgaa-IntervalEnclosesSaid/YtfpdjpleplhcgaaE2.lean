/- PRINTED by amprint.py: what the abstract machine answers, function by function. -/
import Derived.Test.YtfpdjpleplhcgaaH
import Derived.KernelRfl
set_option linter.unusedVariables false
set_option maxRecDepth 100000
namespace Go.Proofs.Ytfpdjpleplhcgaa.Am
open Go Go.Proofs

/-! armplan/armplanlaw2.holds -/
theorem fn66 (n : Nat) (a1 : Int) (a2 : Int) (x3 : Int) : (lvl Try.prog HH (n + 1)).2 66 [.s (.agg true [.v (.int .i64 a1), .v (.int .i64 a2)]), .s (.one (.v (.int .i64 x3)))] [] =
    bif decide (x3 < (-2147483648)) then (
      some (.s (.one (.v (.bool true))), []))
    else
    bif decide (x3 > 2147483648) then (
      some (.s (.one (.v (.bool true))), []))
    else
    bif decide (a1 ≤ x3) then (
      some (.s (.one (.v (.bool (decide (x3 ≤ a2))))), []))
    else
    some (.s (.one (.v (.bool false))), []) := by kernel_rfl

/-! armplan/interval.Sub -/
theorem fn68 (n : Nat) (a1 : Int) (a2 : Int) (b3 : Int) (b4 : Int) : (lvl Try.prog HH (n + 1)).2 68 [.s (.agg true [.v (.int .i64 a1), .v (.int .i64 a2)]), .s (.agg true [.v (.int .i64 b3), .v (.int .i64 b4)])] [] =
    callT (lvl Try.prog HH (n + 0)).2 108 [.s (.agg true [.v (.int .i64 a1), .v (.int .i64 a2)]), .s (.agg true [.v (.int .i64 b3), .v (.int .i64 b4)])] [] outs108 mouts108 fun y5 m6 =>
    bif !y5.1 then (
      some (.s (.agg true [.v (.int .i64 0), .v (.int .i64 0)]), []))
    else
    letIn (IntKind.wrap .i64 (a1 - b4) : Int) fun n7 =>
    letIn (IntKind.wrap .i64 (a2 - b3) : Int) fun n8 =>
    callT (lvl Try.prog HH (n + 0)).2 107 [.s (.one (.v (.int .i64 n7))), .s (.one (.v (.int .i64 n8)))] [] outs107 mouts107 fun y9 m10 =>
    some (.s (.agg true [.v (.int .i64 y9.1.1), .v (.int .i64 y9.1.2.1)]), []) := by kernel_rfl

/-! armplan/armplanref1.Floor -/
theorem fn116 (n : Nat) (a1 : Int) (b2 : Int) : (lvl Try.prog HH (n + 1)).2 116 [.s (.one (.v (.int .i64 a1))), .s (.one (.v (.int .i64 b2)))] [] =
    bif b2 == 0 then (
      none)
    else
    letIn (IntKind.wrap .i64 (Int.tdiv a1 b2) : Int) fun n3 =>
    bif b2 == 0 then (
      none)
    else
    letIn (Int.tmod a1 b2 : Int) fun n4 =>
    bif decide (n4 < 0) then (
      letIn (IntKind.wrap .i64 (n3 - 1) : Int) fun n5 =>
      some (.s (.one (.v (.int .i64 n5))), []))
    else
    some (.s (.one (.v (.int .i64 n3))), []) := by kernel_rfl

/-! armplan/armplanref1.MulDown -/
theorem fn70 (n : Nat) (a1 : Int) (b2 : Int) : (lvl Try.prog HH (n + 1)).2 70 [.s (.one (.v (.int .i64 a1))), .s (.one (.v (.int .i64 b2)))] [] =
    callT (lvl Try.prog HH (n + 0)).2 102 [.s (.one (.v (.int .i64 a1)))] [] outs102 mouts102 fun y3 m4 =>
    callT (lvl Try.prog HH (n + 0)).2 102 [.s (.one (.v (.int .i64 b2)))] [] outs102 mouts102 fun y5 m6 =>
    letIn (IntKind.wrap .i64 (y3.1 * y5.1) : Int) fun n7 =>
    callT (lvl Try.prog HH (n + 0)).2 116 [.s (.one (.v (.int .i64 n7))), .s (.one (.v (.int .i64 65536)))] [] outs116 mouts116 fun y8 m9 =>
    some (.s (.one (.v (.int .i64 y8.1))), []) := by kernel_rfl

/-! armplan/armplanref1.Ceil -/
theorem fn64 (n : Nat) (a1 : Int) (b2 : Int) : (lvl Try.prog HH (n + 1)).2 64 [.s (.one (.v (.int .i64 a1))), .s (.one (.v (.int .i64 b2)))] [] =
    bif b2 == 0 then (
      none)
    else
    letIn (IntKind.wrap .i64 (Int.tdiv a1 b2) : Int) fun n3 =>
    bif b2 == 0 then (
      none)
    else
    letIn (Int.tmod a1 b2 : Int) fun n4 =>
    bif decide (n4 > 0) then (
      letIn (IntKind.wrap .i64 (n3 + 1) : Int) fun n5 =>
      some (.s (.one (.v (.int .i64 n5))), []))
    else
    some (.s (.one (.v (.int .i64 n3))), []) := by kernel_rfl

/-! armplan/armplanref1.MulUp -/
theorem fn71 (n : Nat) (a1 : Int) (b2 : Int) : (lvl Try.prog HH (n + 1)).2 71 [.s (.one (.v (.int .i64 a1))), .s (.one (.v (.int .i64 b2)))] [] =
    callT (lvl Try.prog HH (n + 0)).2 102 [.s (.one (.v (.int .i64 a1)))] [] outs102 mouts102 fun y3 m4 =>
    callT (lvl Try.prog HH (n + 0)).2 102 [.s (.one (.v (.int .i64 b2)))] [] outs102 mouts102 fun y5 m6 =>
    letIn (IntKind.wrap .i64 (y3.1 * y5.1) : Int) fun n7 =>
    callT (lvl Try.prog HH (n + 0)).2 64 [.s (.one (.v (.int .i64 n7))), .s (.one (.v (.int .i64 65536)))] [] outs64 mouts64 fun y8 m9 =>
    some (.s (.one (.v (.int .i64 y8.1))), []) := by kernel_rfl

/-! armplan/interval.Square -/
theorem fn72 (n : Nat) (a1 : Int) (a2 : Int) : (lvl Try.prog HH (n + 1)).2 72 [.s (.agg true [.v (.int .i64 a1), .v (.int .i64 a2)])] [] =
    callT (lvl Try.prog HH (n + 0)).2 48 [.s (.agg true [.v (.int .i64 a1), .v (.int .i64 a2)])] [] outs48 mouts48 fun y3 m4 =>
    bif !y3.1 then (
      some (.s (.agg true [.v (.int .i64 0), .v (.int .i64 0)]), []))
    else
    letIn (IntKind.wrap .i64 (a1 * a1) : Int) fun n5 =>
    letIn (IntKind.wrap .i64 (a2 * a2) : Int) fun n6 =>
    bif decide (a1 ≤ 0) then (
      bif decide (a2 ≥ 0) then (
        letIn (if n6 > n5 then n6 else n5 : Int) fun n7 =>
        callT (lvl Try.prog HH (n + 0)).2 115 [.s (.one (.v (.int .i64 0))), .s (.one (.v (.int .i64 n7)))] [] outs115 mouts115 fun y8 m9 =>
        some (.s (.agg true [.v (.int .i64 y8.1.1), .v (.int .i64 y8.1.2.1)]), []))
      else
      letIn (if n6 < n5 then n6 else n5 : Int) fun n10 =>
      letIn (if n6 > n5 then n6 else n5 : Int) fun n11 =>
      callT (lvl Try.prog HH (n + 0)).2 115 [.s (.one (.v (.int .i64 n10))), .s (.one (.v (.int .i64 n11)))] [] outs115 mouts115 fun y12 m13 =>
      some (.s (.agg true [.v (.int .i64 y12.1.1), .v (.int .i64 y12.1.2.1)]), []))
    else
    letIn (if n6 < n5 then n6 else n5 : Int) fun n14 =>
    letIn (if n6 > n5 then n6 else n5 : Int) fun n15 =>
    callT (lvl Try.prog HH (n + 0)).2 115 [.s (.one (.v (.int .i64 n14))), .s (.one (.v (.int .i64 n15)))] [] outs115 mouts115 fun y16 m17 =>
    some (.s (.agg true [.v (.int .i64 y16.1.1), .v (.int .i64 y16.1.2.1)]), []) := by kernel_rfl

end Go.Proofs.Ytfpdjpleplhcgaa.Am
