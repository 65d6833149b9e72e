/- PRINTED by amprint.py: what the abstract machine answers, function by function. -/
import Derived.Test.YtdeajnmheebghaaH
import Derived.KernelRfl
set_option linter.unusedVariables false
set_option maxRecDepth 100000
namespace Go.Proofs.Ytdeajnmheebghaa.Am
open Go Go.Proofs

/-! armplan/armplanlaw1.awake -/
theorem fn14 (n : Nat)  : (lvl Try.prog HH (n + 1)).2 14 [] [] =
    callT (lvl Try.prog HH (n + 0)).2 21 [.s (.one (.v (.int .i64 98304))), .s (.one (.v (.int .i64 32768)))] [] outs21 mouts21 fun y1 m2 =>
    bif y1.1 == 49152 then (
      callT (lvl Try.prog HH (n + 0)).2 12 [.s (.one (.v (.int .i64 15)))] [] outs12 mouts12 fun y3 m4 =>
      some (.s (.one (.v (.bool (y3.1 == 3)))), []))
    else
    some (.s (.one (.v (.bool false))), []) := by kernel_rfl

/-! armplan/fixed.quotient -/
theorem fn37 (n : Nat) (x1 : Int) (y2 : Int) : (lvl Try.prog HH (n + 1)).2 37 [.s (.one (.v (.int .i64 x1))), .s (.one (.v (.int .i64 y2)))] [] =
    bif y2 == 0 then (
      none)
    else
    letIn (IntKind.wrap .i64 (Int.tdiv x1 y2) : Int) fun n3 =>
    bif y2 == 0 then (
      none)
    else
    letIn (Int.tmod x1 y2 : Int) fun n4 =>
    bif n4 != 0 then (
      bif !((decide (x1 < 0)) == (decide (y2 < 0))) then (
        letIn (IntKind.wrap .i64 (n3 - 1) : Int) fun n5 =>
        some (.s (.one (.v (.int .i64 n5))), []))
      else
      some (.s (.one (.v (.int .i64 n3))), []))
    else
    some (.s (.one (.v (.int .i64 n3))), []) := by kernel_rfl

/-! armplan/fixed.DivUp -/
theorem fn33 (n : Nat) (a1 : Int) (b2 : Int) : (lvl Try.prog HH (n + 1)).2 33 [.s (.one (.v (.int .i64 a1))), .s (.one (.v (.int .i64 b2)))] [] =
    bif b2 == 0 then (
      some (.tup [.one (.v (.int .i64 0)), .one (.v (.bool false))], []))
    else
    callT (lvl Try.prog HH (n + 0)).2 19 [.s (.one (.v (.int .i64 a1)))] [] outs19 mouts19 fun y3 m4 =>
    letIn (IntKind.wrap .i64 (0 - y3.1) : Int) fun n5 =>
    letIn (IntKind.wrap .i64 (n5 * 65536) : Int) fun n6 =>
    callT (lvl Try.prog HH (n + 0)).2 19 [.s (.one (.v (.int .i64 b2)))] [] outs19 mouts19 fun y7 m8 =>
    callT (lvl Try.prog HH (n + 0)).2 37 [.s (.one (.v (.int .i64 n6))), .s (.one (.v (.int .i64 y7.1)))] [] outs37 mouts37 fun y9 m10 =>
    letIn (IntKind.wrap .i64 (0 - y9.1) : Int) fun n11 =>
    some (.tup [.one (.v (.int .i64 n11)), .one (.v (.bool true))], []) := by kernel_rfl

end Go.Proofs.Ytdeajnmheebghaa.Am
