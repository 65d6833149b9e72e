/- PRINTED by amprint.py: what the abstract machine answers, function by function. -/
import Derived.Test.YtdeajnmheebghaaH
import Derived.KernelRfl
set_option linter.unusedVariables false
set_option maxRecDepth 100000
namespace Go.Proofs.Ytdeajnmheebghaa.Am
open Go Go.Proofs

/-! armplan/armplanref1.Clamp -/
theorem fn20 (n : Nat) (a1 : Int) : (lvl Try.prog HH (n + 1)).2 20 [.s (.one (.v (.int .i64 a1)))] [] =
    letIn (if 2147483648 < a1 then 2147483648 else a1 : Int) fun n2 =>
    letIn (if n2 > (-2147483648) then n2 else (-2147483648) : Int) fun n3 =>
    some (.s (.one (.v (.int .i64 n3))), []) := by kernel_rfl

/-! armplan/fixed.Clamp -/
theorem fn19 (n : Nat) (a1 : Int) : (lvl Try.prog HH (n + 1)).2 19 [.s (.one (.v (.int .i64 a1)))] [] =
    letIn (if (-2147483648) > a1 then (-2147483648) else a1 : Int) fun n2 =>
    letIn (if 2147483648 < n2 then 2147483648 else n2 : Int) fun n3 =>
    some (.s (.one (.v (.int .i64 n3))), []) := by kernel_rfl

/-! armplan/fixed.quotient -/
theorem fn37 (n : Nat) (x1 : Int) (y2 : Int) : (lvl Try.prog HH (n + 1)).2 37 [.s (.one (.v (.int .i64 x1))), .s (.one (.v (.int .i64 y2)))] [] =
    bif y2 == 0 then (
      none)
    else
    letIn (IntKind.wrap .i64 (Int.tdiv x1 y2) : Int) fun n3 =>
    bif y2 == 0 then (
      none)
    else
    letIn (Int.tmod x1 y2 : Int) fun n4 =>
    bif n4 != 0 then (
      bif !((decide (x1 < 0)) == (decide (y2 < 0))) then (
        letIn (IntKind.wrap .i64 (n3 - 1) : Int) fun n5 =>
        some (.s (.one (.v (.int .i64 n5))), []))
      else
      some (.s (.one (.v (.int .i64 n3))), []))
    else
    some (.s (.one (.v (.int .i64 n3))), []) := by kernel_rfl

/-! armplan/fixed.DivDown -/
theorem fn31 (n : Nat) (a1 : Int) (b2 : Int) : (lvl Try.prog HH (n + 1)).2 31 [.s (.one (.v (.int .i64 a1))), .s (.one (.v (.int .i64 b2)))] [] =
    bif b2 == 0 then (
      some (.tup [.one (.v (.int .i64 0)), .one (.v (.bool false))], []))
    else
    callT (lvl Try.prog HH (n + 0)).2 19 [.s (.one (.v (.int .i64 a1)))] [] outs19 mouts19 fun y3 m4 =>
    letIn (IntKind.wrap .i64 (y3.1 * 65536) : Int) fun n5 =>
    callT (lvl Try.prog HH (n + 0)).2 19 [.s (.one (.v (.int .i64 b2)))] [] outs19 mouts19 fun y6 m7 =>
    callT (lvl Try.prog HH (n + 0)).2 37 [.s (.one (.v (.int .i64 n5))), .s (.one (.v (.int .i64 y6.1)))] [] outs37 mouts37 fun y8 m9 =>
    some (.tup [.one (.v (.int .i64 y8.1)), .one (.v (.bool true))], []) := by kernel_rfl

end Go.Proofs.Ytdeajnmheebghaa.Am
