/- PRINTED by amprint.py: what the abstract machine answers, function by function. -/
import Derived.Test.YtdeajnmheebghaaH
import Derived.KernelRfl
set_option linter.unusedVariables false
set_option maxRecDepth 100000
namespace Go.Proofs.Ytdeajnmheebghaa.Am
open Go Go.Proofs

/-! armplan/armplanlaw1.FixedNegates -/
theorem fn11 (n : Nat) (a1 : Int) (b2 : Int) (shift3 : Int) : (lvl Try.prog HH (n + 1)).2 11 [.s (.one (.v (.int .i64 a1))), .s (.one (.v (.int .i64 b2))), .s (.one (.v (.int .u8 shift3)))] [] =
    letIn (Int.tmod shift3 64 : Int) fun n4 =>
    bif decide (n4 < 0) then (
      none)
    else
    letIn (Int.fdiv a1 (2 ^ min n4.toNat 64) : Int) fun n5 =>
    letIn (IntKind.wrap .u8 (Int.tdiv shift3 4) : Int) fun n6 =>
    letIn (Int.tmod n6 64 : Int) fun n7 =>
    bif decide (n7 < 0) then (
      none)
    else
    letIn (Int.fdiv b2 (2 ^ min n7.toNat 64) : Int) fun n8 =>
    bif n5 == (-9223372036854775808) then (
      callT (lvl Try.prog HH (n + 0)).2 14 [] [] outs14 mouts14 fun y9 m10 =>
      some (.s (.one (.v (.bool y9.1))), []))
    else
    callT (lvl Try.prog HH (n + 0)).2 33 [.s (.one (.v (.int .i64 n5))), .s (.one (.v (.int .i64 n8)))] [] outs33 mouts33 fun y11 m12 =>
    letIn (IntKind.wrap .i64 (0 - n5) : Int) fun n13 =>
    callT (lvl Try.prog HH (n + 0)).2 31 [.s (.one (.v (.int .i64 n13))), .s (.one (.v (.int .i64 n8)))] [] outs31 mouts31 fun y14 m15 =>
    callT (lvl Try.prog HH (n + 0)).2 14 [] [] outs14 mouts14 fun y16 m17 =>
    bif y16.1 then (
      callT (lvl Try.prog HH (n + 0)).2 23 [.s (.one (.v (.int .i64 n5))), .s (.one (.v (.int .i64 n8)))] [] outs23 mouts23 fun y18 m19 =>
      letIn (IntKind.wrap .i64 (0 - n5) : Int) fun n20 =>
      callT (lvl Try.prog HH (n + 0)).2 21 [.s (.one (.v (.int .i64 n20))), .s (.one (.v (.int .i64 n8)))] [] outs21 mouts21 fun y21 m22 =>
      letIn (IntKind.wrap .i64 (0 - y21.1) : Int) fun n23 =>
      bif y18.1 == n23 then (
        letIn (IntKind.wrap .i64 (0 - y14.1) : Int) fun n24 =>
        bif y11.1 == n24 then (
          bif y11.2.1 == y14.2.1 then (
            some (.s (.one (.v (.bool (y11.2.1 == (n8 != 0))))), []))
          else
          some (.s (.one (.v (.bool false))), []))
        else
        some (.s (.one (.v (.bool false))), []))
      else
      some (.s (.one (.v (.bool false))), []))
    else
    some (.s (.one (.v (.bool false))), []) := by kernel_rfl

end Go.Proofs.Ytdeajnmheebghaa.Am
