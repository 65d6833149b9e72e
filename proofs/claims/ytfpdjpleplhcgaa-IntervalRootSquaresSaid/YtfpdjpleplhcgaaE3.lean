/- PRINTED by amprint.py: what the abstract machine answers, function by function. -/
import Derived.Test.YtfpdjpleplhcgaaH
import Derived.KernelRfl
set_option linter.unusedVariables false
set_option maxRecDepth 100000
namespace Go.Proofs.Ytfpdjpleplhcgaa.Am
open Go Go.Proofs

/-! armplan/interval.Sqrt -/
theorem fn81 (n : Nat) (a1 : Int) (a2 : Int) : (lvl Try.prog HH (n + 1)).2 81 [.s (.agg true [.v (.int .i64 a1), .v (.int .i64 a2)])] [] =
    callT (lvl Try.prog HH (n + 0)).2 48 [.s (.agg true [.v (.int .i64 a1), .v (.int .i64 a2)])] [] outs48 mouts48 fun y3 m4 =>
    bif !y3.1 then (
      some (.s (.agg true [.v (.int .i64 0), .v (.int .i64 0)]), []))
    else
    callT (lvl Try.prog HH (n + 0)).2 135 [.s (.one (.v (.int .i64 a1)))] [] outs135 mouts135 fun y5 m6 =>
    callT (lvl Try.prog HH (n + 0)).2 136 [.s (.one (.v (.int .i64 a2)))] [] outs136 mouts136 fun y7 m8 =>
    some (.s (.agg true [.v (.int .i64 y5.1), .v (.int .i64 y7.1)]), []) := by kernel_rfl

/-! armplan/interval.Square -/
theorem fn72 (n : Nat) (a1 : Int) (a2 : Int) : (lvl Try.prog HH (n + 1)).2 72 [.s (.agg true [.v (.int .i64 a1), .v (.int .i64 a2)])] [] =
    callT (lvl Try.prog HH (n + 0)).2 48 [.s (.agg true [.v (.int .i64 a1), .v (.int .i64 a2)])] [] outs48 mouts48 fun y3 m4 =>
    bif !y3.1 then (
      some (.s (.agg true [.v (.int .i64 0), .v (.int .i64 0)]), []))
    else
    letIn (IntKind.wrap .i64 (a1 * a1) : Int) fun n5 =>
    letIn (IntKind.wrap .i64 (a2 * a2) : Int) fun n6 =>
    bif decide (a1 ≤ 0) then (
      bif decide (a2 ≥ 0) then (
        letIn (if n6 > n5 then n6 else n5 : Int) fun n7 =>
        callT (lvl Try.prog HH (n + 0)).2 115 [.s (.one (.v (.int .i64 0))), .s (.one (.v (.int .i64 n7)))] [] outs115 mouts115 fun y8 m9 =>
        some (.s (.agg true [.v (.int .i64 y8.1.1), .v (.int .i64 y8.1.2.1)]), []))
      else
      letIn (if n6 < n5 then n6 else n5 : Int) fun n10 =>
      letIn (if n6 > n5 then n6 else n5 : Int) fun n11 =>
      callT (lvl Try.prog HH (n + 0)).2 115 [.s (.one (.v (.int .i64 n10))), .s (.one (.v (.int .i64 n11)))] [] outs115 mouts115 fun y12 m13 =>
      some (.s (.agg true [.v (.int .i64 y12.1.1), .v (.int .i64 y12.1.2.1)]), []))
    else
    letIn (if n6 < n5 then n6 else n5 : Int) fun n14 =>
    letIn (if n6 > n5 then n6 else n5 : Int) fun n15 =>
    callT (lvl Try.prog HH (n + 0)).2 115 [.s (.one (.v (.int .i64 n14))), .s (.one (.v (.int .i64 n15)))] [] outs115 mouts115 fun y16 m17 =>
    some (.s (.agg true [.v (.int .i64 y16.1.1), .v (.int .i64 y16.1.2.1)]), []) := by kernel_rfl

/-! armplan/interval.Within -/
theorem fn51 (n : Nat) (a1 : Int) (a2 : Int) (b3 : Int) (b4 : Int) : (lvl Try.prog HH (n + 1)).2 51 [.s (.agg true [.v (.int .i64 a1), .v (.int .i64 a2)]), .s (.agg true [.v (.int .i64 b3), .v (.int .i64 b4)])] [] =
    callT (lvl Try.prog HH (n + 0)).2 108 [.s (.agg true [.v (.int .i64 a1), .v (.int .i64 a2)]), .s (.agg true [.v (.int .i64 b3), .v (.int .i64 b4)])] [] outs108 mouts108 fun y5 m6 =>
    bif y5.1 then (
      bif decide (b3 ≤ a1) then (
        some (.s (.one (.v (.bool (decide (a2 ≤ b4))))), []))
      else
      some (.s (.one (.v (.bool false))), []))
    else
    some (.s (.one (.v (.bool false))), []) := by kernel_rfl

/-! armplan/armplanlaw2.IntervalRootSquares -/
theorem fn23 (n : Nat) (k1 : Int) (l2 : Int) : (lvl Try.prog HH (n + 1)).2 23 [.s (.one (.v (.int .i64 k1))), .s (.one (.v (.int .i64 l2)))] [] =
    callT (lvl Try.prog HH (n + 0)).2 43 [.s (.one (.v (.int .i64 k1))), .s (.one (.v (.int .i64 l2)))] [] outs43 mouts43 fun y3 m4 =>
    bif decide (y3.1.1 < 0) then (
      letIn (if y3.1.2.1 > 0 then y3.1.2.1 else 0 : Int) fun n5 =>
      callT (lvl Try.prog HH (n + 0)).2 44 [] [] outs44 mouts44 fun y6 m7 =>
      bif y6.1 then (
        callT (lvl Try.prog HH (n + 0)).2 81 [.s (.agg true [.v (.int .i64 0), .v (.int .i64 n5)])] [] outs81 mouts81 fun y8 m9 =>
        callT (lvl Try.prog HH (n + 0)).2 72 [.s (.agg true [.v (.int .i64 y8.1.1), .v (.int .i64 y8.1.2.1)])] [] outs72 mouts72 fun y10 m11 =>
        callT (lvl Try.prog HH (n + 0)).2 51 [.s (.agg true [.v (.int .i64 0), .v (.int .i64 n5)]), .s (.agg true [.v (.int .i64 y10.1.1), .v (.int .i64 y10.1.2.1)])] [] outs51 mouts51 fun y12 m13 =>
        some (.s (.one (.v (.bool y12.1))), []))
      else
      some (.s (.one (.v (.bool false))), []))
    else
    callT (lvl Try.prog HH (n + 0)).2 44 [] [] outs44 mouts44 fun y14 m15 =>
    bif y14.1 then (
      callT (lvl Try.prog HH (n + 0)).2 81 [.s (.agg true [.v (.int .i64 y3.1.1), .v (.int .i64 y3.1.2.1)])] [] outs81 mouts81 fun y16 m17 =>
      callT (lvl Try.prog HH (n + 0)).2 72 [.s (.agg true [.v (.int .i64 y16.1.1), .v (.int .i64 y16.1.2.1)])] [] outs72 mouts72 fun y18 m19 =>
      callT (lvl Try.prog HH (n + 0)).2 51 [.s (.agg true [.v (.int .i64 y3.1.1), .v (.int .i64 y3.1.2.1)]), .s (.agg true [.v (.int .i64 y18.1.1), .v (.int .i64 y18.1.2.1)])] [] outs51 mouts51 fun y20 m21 =>
      some (.s (.one (.v (.bool y20.1))), []))
    else
    some (.s (.one (.v (.bool false))), []) := by kernel_rfl

end Go.Proofs.Ytfpdjpleplhcgaa.Am
