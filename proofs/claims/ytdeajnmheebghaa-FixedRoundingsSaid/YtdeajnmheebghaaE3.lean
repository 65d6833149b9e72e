/- PRINTED by amprint.py: what the abstract machine answers, function by function. -/
import Derived.Test.YtdeajnmheebghaaH
import Derived.KernelRfl
set_option linter.unusedVariables false
set_option maxRecDepth 100000
namespace Go.Proofs.Ytdeajnmheebghaa.Am
open Go Go.Proofs

/-! armplan/armplanlaw1.FixedRoundings -/
theorem fn6 (n : Nat) (a1 : Int) (b2 : Int) (shift3 : Int) : (lvl Try.prog HH (n + 1)).2 6 [.s (.one (.v (.int .i64 a1))), .s (.one (.v (.int .i64 b2))), .s (.one (.v (.int .u8 shift3)))] [] =
    letIn (Int.tmod shift3 64 : Int) fun n4 =>
    bif decide (n4 < 0) then (
      none)
    else
    letIn (Int.fdiv a1 (2 ^ min n4.toNat 64) : Int) fun n5 =>
    letIn (IntKind.wrap .u8 (Int.tdiv shift3 4) : Int) fun n6 =>
    letIn (Int.tmod n6 64 : Int) fun n7 =>
    bif decide (n7 < 0) then (
      none)
    else
    letIn (Int.fdiv b2 (2 ^ min n7.toNat 64) : Int) fun n8 =>
    callT (lvl Try.prog HH (n + 0)).2 23 [.s (.one (.v (.int .i64 n5))), .s (.one (.v (.int .i64 n8)))] [] outs23 mouts23 fun y9 m10 =>
    callT (lvl Try.prog HH (n + 0)).2 21 [.s (.one (.v (.int .i64 n5))), .s (.one (.v (.int .i64 n8)))] [] outs21 mouts21 fun y11 m12 =>
    letIn (IntKind.wrap .i64 (y9.1 - y11.1) : Int) fun n13 =>
    callT (lvl Try.prog HH (n + 0)).2 20 [.s (.one (.v (.int .i64 n5)))] [] outs20 mouts20 fun y14 m15 =>
    callT (lvl Try.prog HH (n + 0)).2 20 [.s (.one (.v (.int .i64 n8)))] [] outs20 mouts20 fun y16 m17 =>
    letIn (IntKind.wrap .i64 (y14.1 * y16.1) : Int) fun n18 =>
    letIn (Int.tmod n18 65536 : Int) fun n19 =>
    callT (lvl Try.prog HH (n + 0)).2 14 [] [] outs14 mouts14 fun y20 m21 =>
    bif y20.1 then (
      bif (n13 == 0) == (n19 == 0) then (
        some (.s (.one (.v (.bool ((n13 == 1) == (!(n19 == 0)))))), []))
      else
      some (.s (.one (.v (.bool false))), []))
    else
    some (.s (.one (.v (.bool false))), []) := by kernel_rfl

end Go.Proofs.Ytdeajnmheebghaa.Am
