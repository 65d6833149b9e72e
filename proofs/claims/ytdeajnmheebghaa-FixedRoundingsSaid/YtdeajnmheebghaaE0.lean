/- PRINTED by amprint.py: what the abstract machine answers, function by function. -/
import Derived.Test.YtdeajnmheebghaaH
import Derived.KernelRfl
set_option linter.unusedVariables false
set_option maxRecDepth 100000
namespace Go.Proofs.Ytdeajnmheebghaa.Am
open Go Go.Proofs

/-! armplan/fixed.Clamp -/
theorem fn19 (n : Nat) (a1 : Int) : (lvl Try.prog HH (n + 1)).2 19 [.s (.one (.v (.int .i64 a1)))] [] =
    letIn (if (-2147483648) > a1 then (-2147483648) else a1 : Int) fun n2 =>
    letIn (if 2147483648 < n2 then 2147483648 else n2 : Int) fun n3 =>
    some (.s (.one (.v (.int .i64 n3))), []) := by kernel_rfl

/-! armplan/fixed.product -/
theorem fn36 (n : Nat) (a1 : Int) (b2 : Int) : (lvl Try.prog HH (n + 1)).2 36 [.s (.one (.v (.int .i64 a1))), .s (.one (.v (.int .i64 b2)))] [] =
    callT (lvl Try.prog HH (n + 0)).2 19 [.s (.one (.v (.int .i64 a1)))] [] outs19 mouts19 fun y3 m4 =>
    callT (lvl Try.prog HH (n + 0)).2 19 [.s (.one (.v (.int .i64 b2)))] [] outs19 mouts19 fun y5 m6 =>
    letIn (IntKind.wrap .i64 (y3.1 * y5.1) : Int) fun n7 =>
    some (.s (.one (.v (.int .i64 n7))), []) := by kernel_rfl

/-! armplan/fixed.ShiftDown -/
theorem fn15 (n : Nat) (a1 : Int) (k2 : Int) : (lvl Try.prog HH (n + 1)).2 15 [.s (.one (.v (.int .i64 a1))), .s (.one (.v (.int .i64 k2)))] [] =
    bif decide (k2 < 0) then (
      some (.s (.one (.v (.int .i64 a1))), []))
    else
    bif decide (k2 < 0) then (
      none)
    else
    letIn (Int.fdiv a1 (2 ^ min k2.toNat 64) : Int) fun n3 =>
    some (.s (.one (.v (.int .i64 n3))), []) := by kernel_rfl

/-! armplan/fixed.ShiftUp -/
theorem fn17 (n : Nat) (a1 : Int) (k2 : Int) : (lvl Try.prog HH (n + 1)).2 17 [.s (.one (.v (.int .i64 a1))), .s (.one (.v (.int .i64 k2)))] [] =
    callT (lvl Try.prog HH (n + 0)).2 15 [.s (.one (.v (.int .i64 a1))), .s (.one (.v (.int .i64 k2)))] [] outs15 mouts15 fun y3 m4 =>
    bif decide (k2 ≥ 0) then (
      bif decide (k2 < 0) then (
        none)
      else
      letIn (IntKind.wrap .i64 (y3.1 * (2 ^ min k2.toNat 64)) : Int) fun n5 =>
      bif n5 != a1 then (
        letIn (IntKind.wrap .i64 (y3.1 + 1) : Int) fun n6 =>
        some (.s (.one (.v (.int .i64 n6))), []))
      else
      some (.s (.one (.v (.int .i64 y3.1))), []))
    else
    some (.s (.one (.v (.int .i64 y3.1))), []) := by kernel_rfl

end Go.Proofs.Ytdeajnmheebghaa.Am
