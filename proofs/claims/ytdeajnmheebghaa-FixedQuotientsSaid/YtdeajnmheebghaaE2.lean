/- PRINTED by amprint.py: what the abstract machine answers, function by function. -/
import Derived.Test.YtdeajnmheebghaaH
import Derived.KernelRfl
set_option linter.unusedVariables false
set_option maxRecDepth 100000
namespace Go.Proofs.Ytdeajnmheebghaa.Am
open Go Go.Proofs

/-! armplan/armplanref1.Floor -/
theorem fn34 (n : Nat) (a1 : Int) (b2 : Int) : (lvl Try.prog HH (n + 1)).2 34 [.s (.one (.v (.int .i64 a1))), .s (.one (.v (.int .i64 b2)))] [] =
    bif b2 == 0 then (
      none)
    else
    letIn (IntKind.wrap .i64 (Int.tdiv a1 b2) : Int) fun n3 =>
    bif b2 == 0 then (
      none)
    else
    letIn (Int.tmod a1 b2 : Int) fun n4 =>
    bif decide (n4 < 0) then (
      letIn (IntKind.wrap .i64 (n3 - 1) : Int) fun n5 =>
      some (.s (.one (.v (.int .i64 n5))), []))
    else
    some (.s (.one (.v (.int .i64 n3))), []) := by kernel_rfl

/-! armplan/armplanref1.DivDown -/
theorem fn38 (n : Nat) (a1 : Int) (b2 : Int) : (lvl Try.prog HH (n + 1)).2 38 [.s (.one (.v (.int .i64 a1))), .s (.one (.v (.int .i64 b2)))] [] =
    callT (lvl Try.prog HH (n + 0)).2 20 [.s (.one (.v (.int .i64 a1)))] [] outs20 mouts20 fun y3 m4 =>
    letIn (IntKind.wrap .i64 (y3.1 * 65536) : Int) fun n5 =>
    callT (lvl Try.prog HH (n + 0)).2 20 [.s (.one (.v (.int .i64 b2)))] [] outs20 mouts20 fun y6 m7 =>
    bif y6.1 == 0 then (
      some (.tup [.one (.v (.int .i64 0)), .one (.v (.bool false))], []))
    else
    bif decide (y6.1 < 0) then (
      letIn (IntKind.wrap .i64 (0 - n5) : Int) fun n8 =>
      letIn (IntKind.wrap .i64 (0 - y6.1) : Int) fun n9 =>
      callT (lvl Try.prog HH (n + 0)).2 34 [.s (.one (.v (.int .i64 n8))), .s (.one (.v (.int .i64 n9)))] [] outs34 mouts34 fun y10 m11 =>
      some (.tup [.one (.v (.int .i64 y10.1)), .one (.v (.bool true))], []))
    else
    callT (lvl Try.prog HH (n + 0)).2 34 [.s (.one (.v (.int .i64 n5))), .s (.one (.v (.int .i64 y6.1)))] [] outs34 mouts34 fun y12 m13 =>
    some (.tup [.one (.v (.int .i64 y12.1)), .one (.v (.bool true))], []) := by kernel_rfl

/-! armplan/armplanref1.Ceil -/
theorem fn35 (n : Nat) (a1 : Int) (b2 : Int) : (lvl Try.prog HH (n + 1)).2 35 [.s (.one (.v (.int .i64 a1))), .s (.one (.v (.int .i64 b2)))] [] =
    bif b2 == 0 then (
      none)
    else
    letIn (IntKind.wrap .i64 (Int.tdiv a1 b2) : Int) fun n3 =>
    bif b2 == 0 then (
      none)
    else
    letIn (Int.tmod a1 b2 : Int) fun n4 =>
    bif decide (n4 > 0) then (
      letIn (IntKind.wrap .i64 (n3 + 1) : Int) fun n5 =>
      some (.s (.one (.v (.int .i64 n5))), []))
    else
    some (.s (.one (.v (.int .i64 n3))), []) := by kernel_rfl

/-! armplan/armplanref1.DivUp -/
theorem fn39 (n : Nat) (a1 : Int) (b2 : Int) : (lvl Try.prog HH (n + 1)).2 39 [.s (.one (.v (.int .i64 a1))), .s (.one (.v (.int .i64 b2)))] [] =
    callT (lvl Try.prog HH (n + 0)).2 20 [.s (.one (.v (.int .i64 a1)))] [] outs20 mouts20 fun y3 m4 =>
    letIn (IntKind.wrap .i64 (y3.1 * 65536) : Int) fun n5 =>
    callT (lvl Try.prog HH (n + 0)).2 20 [.s (.one (.v (.int .i64 b2)))] [] outs20 mouts20 fun y6 m7 =>
    bif y6.1 == 0 then (
      some (.tup [.one (.v (.int .i64 0)), .one (.v (.bool false))], []))
    else
    bif decide (y6.1 < 0) then (
      letIn (IntKind.wrap .i64 (0 - n5) : Int) fun n8 =>
      letIn (IntKind.wrap .i64 (0 - y6.1) : Int) fun n9 =>
      callT (lvl Try.prog HH (n + 0)).2 35 [.s (.one (.v (.int .i64 n8))), .s (.one (.v (.int .i64 n9)))] [] outs35 mouts35 fun y10 m11 =>
      some (.tup [.one (.v (.int .i64 y10.1)), .one (.v (.bool true))], []))
    else
    callT (lvl Try.prog HH (n + 0)).2 35 [.s (.one (.v (.int .i64 n5))), .s (.one (.v (.int .i64 y6.1)))] [] outs35 mouts35 fun y12 m13 =>
    some (.tup [.one (.v (.int .i64 y12.1)), .one (.v (.bool true))], []) := by kernel_rfl

end Go.Proofs.Ytdeajnmheebghaa.Am
