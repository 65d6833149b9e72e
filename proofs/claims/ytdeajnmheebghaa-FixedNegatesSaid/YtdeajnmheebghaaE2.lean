/- PRINTED by amprint.py: what the abstract machine answers, function by function. -/
import Derived.Test.YtdeajnmheebghaaH
import Derived.KernelRfl
set_option linter.unusedVariables false
set_option maxRecDepth 100000
namespace Go.Proofs.Ytdeajnmheebghaa.Am
open Go Go.Proofs

/-! armplan/fixed.DivDown -/
theorem fn31 (n : Nat) (a1 : Int) (b2 : Int) : (lvl Try.prog HH (n + 1)).2 31 [.s (.one (.v (.int .i64 a1))), .s (.one (.v (.int .i64 b2)))] [] =
    bif b2 == 0 then (
      some (.tup [.one (.v (.int .i64 0)), .one (.v (.bool false))], []))
    else
    callT (lvl Try.prog HH (n + 0)).2 19 [.s (.one (.v (.int .i64 a1)))] [] outs19 mouts19 fun y3 m4 =>
    letIn (IntKind.wrap .i64 (y3.1 * 65536) : Int) fun n5 =>
    callT (lvl Try.prog HH (n + 0)).2 19 [.s (.one (.v (.int .i64 b2)))] [] outs19 mouts19 fun y6 m7 =>
    callT (lvl Try.prog HH (n + 0)).2 37 [.s (.one (.v (.int .i64 n5))), .s (.one (.v (.int .i64 y6.1)))] [] outs37 mouts37 fun y8 m9 =>
    some (.tup [.one (.v (.int .i64 y8.1)), .one (.v (.bool true))], []) := by kernel_rfl

/-! armplan/fixed.ShiftUp -/
theorem fn17 (n : Nat) (a1 : Int) (k2 : Int) : (lvl Try.prog HH (n + 1)).2 17 [.s (.one (.v (.int .i64 a1))), .s (.one (.v (.int .i64 k2)))] [] =
    callT (lvl Try.prog HH (n + 0)).2 15 [.s (.one (.v (.int .i64 a1))), .s (.one (.v (.int .i64 k2)))] [] outs15 mouts15 fun y3 m4 =>
    bif decide (k2 ≥ 0) then (
      bif decide (k2 < 0) then (
        none)
      else
      letIn (IntKind.wrap .i64 (y3.1 * (2 ^ min k2.toNat 64)) : Int) fun n5 =>
      bif n5 != a1 then (
        letIn (IntKind.wrap .i64 (y3.1 + 1) : Int) fun n6 =>
        some (.s (.one (.v (.int .i64 n6))), []))
      else
      some (.s (.one (.v (.int .i64 y3.1))), []))
    else
    some (.s (.one (.v (.int .i64 y3.1))), []) := by kernel_rfl

/-! armplan/fixed.MulUp -/
theorem fn23 (n : Nat) (a1 : Int) (b2 : Int) : (lvl Try.prog HH (n + 1)).2 23 [.s (.one (.v (.int .i64 a1))), .s (.one (.v (.int .i64 b2)))] [] =
    callT (lvl Try.prog HH (n + 0)).2 36 [.s (.one (.v (.int .i64 a1))), .s (.one (.v (.int .i64 b2)))] [] outs36 mouts36 fun y3 m4 =>
    callT (lvl Try.prog HH (n + 0)).2 17 [.s (.one (.v (.int .i64 y3.1))), .s (.one (.v (.int .i64 16)))] [] outs17 mouts17 fun y5 m6 =>
    some (.s (.one (.v (.int .i64 y5.1))), []) := by kernel_rfl

end Go.Proofs.Ytdeajnmheebghaa.Am
