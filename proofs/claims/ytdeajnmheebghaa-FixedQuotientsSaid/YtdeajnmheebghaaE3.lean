/- PRINTED by amprint.py: what the abstract machine answers, function by function. -/
import Derived.Test.YtdeajnmheebghaaH
import Derived.KernelRfl
set_option linter.unusedVariables false
set_option maxRecDepth 100000
namespace Go.Proofs.Ytdeajnmheebghaa.Am
open Go Go.Proofs

/-! armplan/armplanlaw1.quotients -/
theorem fn32 (n : Nat) (a1 : Int) (b2 : Int) : (lvl Try.prog HH (n + 1)).2 32 [.s (.one (.v (.int .i64 a1))), .s (.one (.v (.int .i64 b2)))] [] =
    callT (lvl Try.prog HH (n + 0)).2 31 [.s (.one (.v (.int .i64 a1))), .s (.one (.v (.int .i64 b2)))] [] outs31 mouts31 fun y3 m4 =>
    callT (lvl Try.prog HH (n + 0)).2 33 [.s (.one (.v (.int .i64 a1))), .s (.one (.v (.int .i64 b2)))] [] outs33 mouts33 fun y5 m6 =>
    callT (lvl Try.prog HH (n + 0)).2 38 [.s (.one (.v (.int .i64 a1))), .s (.one (.v (.int .i64 b2)))] [] outs38 mouts38 fun y7 m8 =>
    callT (lvl Try.prog HH (n + 0)).2 39 [.s (.one (.v (.int .i64 a1))), .s (.one (.v (.int .i64 b2)))] [] outs39 mouts39 fun y9 m10 =>
    bif y3.1 == y7.1 then (
      bif y5.1 == y9.1 then (
        bif y3.2.1 == y7.2.1 then (
          some (.s (.one (.v (.bool (y5.2.1 == y9.2.1)))), []))
        else
        some (.s (.one (.v (.bool false))), []))
      else
      some (.s (.one (.v (.bool false))), []))
    else
    some (.s (.one (.v (.bool false))), []) := by kernel_rfl

/-! armplan/armplanlaw1.FixedQuotients -/
theorem fn10 (n : Nat) (a1 : Int) (b2 : Int) (shift3 : Int) : (lvl Try.prog HH (n + 1)).2 10 [.s (.one (.v (.int .i64 a1))), .s (.one (.v (.int .i64 b2))), .s (.one (.v (.int .u8 shift3)))] [] =
    letIn (Int.tmod shift3 64 : Int) fun n4 =>
    bif decide (n4 < 0) then (
      none)
    else
    letIn (Int.fdiv a1 (2 ^ min n4.toNat 64) : Int) fun n5 =>
    letIn (IntKind.wrap .u8 (Int.tdiv shift3 4) : Int) fun n6 =>
    letIn (Int.tmod n6 64 : Int) fun n7 =>
    bif decide (n7 < 0) then (
      none)
    else
    letIn (Int.fdiv b2 (2 ^ min n7.toNat 64) : Int) fun n8 =>
    callT (lvl Try.prog HH (n + 0)).2 14 [] [] outs14 mouts14 fun y9 m10 =>
    bif y9.1 then (
      callT (lvl Try.prog HH (n + 0)).2 32 [.s (.one (.v (.int .i64 a1))), .s (.one (.v (.int .i64 b2)))] [] outs32 mouts32 fun y11 m12 =>
      bif y11.1 then (
        callT (lvl Try.prog HH (n + 0)).2 32 [.s (.one (.v (.int .i64 n5))), .s (.one (.v (.int .i64 n8)))] [] outs32 mouts32 fun y13 m14 =>
        bif y13.1 then (
          callT (lvl Try.prog HH (n + 0)).2 32 [.s (.one (.v (.int .i64 n5))), .s (.one (.v (.int .i64 0)))] [] outs32 mouts32 fun y15 m16 =>
          some (.s (.one (.v (.bool y15.1))), []))
        else
        some (.s (.one (.v (.bool false))), []))
      else
      some (.s (.one (.v (.bool false))), []))
    else
    some (.s (.one (.v (.bool false))), []) := by kernel_rfl

end Go.Proofs.Ytdeajnmheebghaa.Am
