/- PRINTED by amprint.py: what the abstract machine answers, function by function. -/
import Derived.Test.YtfpdjpleplhcgaaH
import Derived.KernelRfl
set_option linter.unusedVariables false
set_option maxRecDepth 100000
namespace Go.Proofs.Ytfpdjpleplhcgaa.Am
open Go Go.Proofs

/-! armplan/interval.Sub -/
theorem fn68 (n : Nat) (a1 : Int) (a2 : Int) (b3 : Int) (b4 : Int) : (lvl Try.prog HH (n + 1)).2 68 [.s (.agg true [.v (.int .i64 a1), .v (.int .i64 a2)]), .s (.agg true [.v (.int .i64 b3), .v (.int .i64 b4)])] [] =
    callT (lvl Try.prog HH (n + 0)).2 108 [.s (.agg true [.v (.int .i64 a1), .v (.int .i64 a2)]), .s (.agg true [.v (.int .i64 b3), .v (.int .i64 b4)])] [] outs108 mouts108 fun y5 m6 =>
    bif !y5.1 then (
      some (.s (.agg true [.v (.int .i64 0), .v (.int .i64 0)]), []))
    else
    letIn (IntKind.wrap .i64 (a1 - b4) : Int) fun n7 =>
    letIn (IntKind.wrap .i64 (a2 - b3) : Int) fun n8 =>
    callT (lvl Try.prog HH (n + 0)).2 107 [.s (.one (.v (.int .i64 n7))), .s (.one (.v (.int .i64 n8)))] [] outs107 mouts107 fun y9 m10 =>
    some (.s (.agg true [.v (.int .i64 y9.1.1), .v (.int .i64 y9.1.2.1)]), []) := by kernel_rfl

/-! armplan/interval.Has -/
theorem fn50 (n : Nat) (a1 : Int) (a2 : Int) (x3 : Int) : (lvl Try.prog HH (n + 1)).2 50 [.s (.agg true [.v (.int .i64 a1), .v (.int .i64 a2)]), .s (.one (.v (.int .i64 x3)))] [] =
    callT (lvl Try.prog HH (n + 0)).2 48 [.s (.agg true [.v (.int .i64 a1), .v (.int .i64 a2)])] [] outs48 mouts48 fun y4 m5 =>
    bif y4.1 then (
      bif decide (x3 ≥ a1) then (
        some (.s (.one (.v (.bool (decide (x3 ≤ a2))))), []))
      else
      some (.s (.one (.v (.bool false))), []))
    else
    some (.s (.one (.v (.bool false))), []) := by kernel_rfl

/-! armplan/interval.Neg -/
theorem fn73 (n : Nat) (a1 : Int) (a2 : Int) : (lvl Try.prog HH (n + 1)).2 73 [.s (.agg true [.v (.int .i64 a1), .v (.int .i64 a2)])] [] =
    callT (lvl Try.prog HH (n + 0)).2 48 [.s (.agg true [.v (.int .i64 a1), .v (.int .i64 a2)])] [] outs48 mouts48 fun y3 m4 =>
    bif !y3.1 then (
      some (.s (.agg true [.v (.int .i64 0), .v (.int .i64 0)]), []))
    else
    letIn (IntKind.wrap .i64 (0 - a2) : Int) fun n5 =>
    letIn (IntKind.wrap .i64 (0 - a1) : Int) fun n6 =>
    some (.s (.agg true [.v (.int .i64 n5), .v (.int .i64 n6)]), []) := by kernel_rfl

/-! armplan/interval.Square -/
theorem fn72 (n : Nat) (a1 : Int) (a2 : Int) : (lvl Try.prog HH (n + 1)).2 72 [.s (.agg true [.v (.int .i64 a1), .v (.int .i64 a2)])] [] =
    callT (lvl Try.prog HH (n + 0)).2 48 [.s (.agg true [.v (.int .i64 a1), .v (.int .i64 a2)])] [] outs48 mouts48 fun y3 m4 =>
    bif !y3.1 then (
      some (.s (.agg true [.v (.int .i64 0), .v (.int .i64 0)]), []))
    else
    letIn (IntKind.wrap .i64 (a1 * a1) : Int) fun n5 =>
    letIn (IntKind.wrap .i64 (a2 * a2) : Int) fun n6 =>
    bif decide (a1 ≤ 0) then (
      bif decide (a2 ≥ 0) then (
        letIn (if n6 > n5 then n6 else n5 : Int) fun n7 =>
        callT (lvl Try.prog HH (n + 0)).2 115 [.s (.one (.v (.int .i64 0))), .s (.one (.v (.int .i64 n7)))] [] outs115 mouts115 fun y8 m9 =>
        some (.s (.agg true [.v (.int .i64 y8.1.1), .v (.int .i64 y8.1.2.1)]), []))
      else
      letIn (if n6 < n5 then n6 else n5 : Int) fun n10 =>
      letIn (if n6 > n5 then n6 else n5 : Int) fun n11 =>
      callT (lvl Try.prog HH (n + 0)).2 115 [.s (.one (.v (.int .i64 n10))), .s (.one (.v (.int .i64 n11)))] [] outs115 mouts115 fun y12 m13 =>
      some (.s (.agg true [.v (.int .i64 y12.1.1), .v (.int .i64 y12.1.2.1)]), []))
    else
    letIn (if n6 < n5 then n6 else n5 : Int) fun n14 =>
    letIn (if n6 > n5 then n6 else n5 : Int) fun n15 =>
    callT (lvl Try.prog HH (n + 0)).2 115 [.s (.one (.v (.int .i64 n14))), .s (.one (.v (.int .i64 n15)))] [] outs115 mouts115 fun y16 m17 =>
    some (.s (.agg true [.v (.int .i64 y16.1.1), .v (.int .i64 y16.1.2.1)]), []) := by kernel_rfl

/-! armplan/interval.Within -/
theorem fn51 (n : Nat) (a1 : Int) (a2 : Int) (b3 : Int) (b4 : Int) : (lvl Try.prog HH (n + 1)).2 51 [.s (.agg true [.v (.int .i64 a1), .v (.int .i64 a2)]), .s (.agg true [.v (.int .i64 b3), .v (.int .i64 b4)])] [] =
    callT (lvl Try.prog HH (n + 0)).2 108 [.s (.agg true [.v (.int .i64 a1), .v (.int .i64 a2)]), .s (.agg true [.v (.int .i64 b3), .v (.int .i64 b4)])] [] outs108 mouts108 fun y5 m6 =>
    bif y5.1 then (
      bif decide (b3 ≤ a1) then (
        some (.s (.one (.v (.bool (decide (a2 ≤ b4))))), []))
      else
      some (.s (.one (.v (.bool false))), []))
    else
    some (.s (.one (.v (.bool false))), []) := by kernel_rfl

end Go.Proofs.Ytfpdjpleplhcgaa.Am
