/- PRINTED by amprint.py: what the abstract machine answers, function by function. -/
import Derived.Test.YtdeajnmheebghaaH
import Derived.KernelRfl
set_option linter.unusedVariables false
set_option maxRecDepth 100000
namespace Go.Proofs.Ytdeajnmheebghaa.Am
open Go Go.Proofs

/-! armplan/fixed.MulUp -/
theorem fn23 (n : Nat) (a1 : Int) (b2 : Int) : (lvl Try.prog HH (n + 1)).2 23 [.s (.one (.v (.int .i64 a1))), .s (.one (.v (.int .i64 b2)))] [] =
    callT (lvl Try.prog HH (n + 0)).2 36 [.s (.one (.v (.int .i64 a1))), .s (.one (.v (.int .i64 b2)))] [] outs36 mouts36 fun y3 m4 =>
    callT (lvl Try.prog HH (n + 0)).2 17 [.s (.one (.v (.int .i64 y3.1))), .s (.one (.v (.int .i64 16)))] [] outs17 mouts17 fun y5 m6 =>
    some (.s (.one (.v (.int .i64 y5.1))), []) := by kernel_rfl

/-! armplan/armplanref1.Ceil -/
theorem fn35 (n : Nat) (a1 : Int) (b2 : Int) : (lvl Try.prog HH (n + 1)).2 35 [.s (.one (.v (.int .i64 a1))), .s (.one (.v (.int .i64 b2)))] [] =
    bif b2 == 0 then (
      none)
    else
    letIn (IntKind.wrap .i64 (Int.tdiv a1 b2) : Int) fun n3 =>
    bif b2 == 0 then (
      none)
    else
    letIn (Int.tmod a1 b2 : Int) fun n4 =>
    bif decide (n4 > 0) then (
      letIn (IntKind.wrap .i64 (n3 + 1) : Int) fun n5 =>
      some (.s (.one (.v (.int .i64 n5))), []))
    else
    some (.s (.one (.v (.int .i64 n3))), []) := by kernel_rfl

/-! armplan/armplanref1.MulUp -/
theorem fn24 (n : Nat) (a1 : Int) (b2 : Int) : (lvl Try.prog HH (n + 1)).2 24 [.s (.one (.v (.int .i64 a1))), .s (.one (.v (.int .i64 b2)))] [] =
    callT (lvl Try.prog HH (n + 0)).2 20 [.s (.one (.v (.int .i64 a1)))] [] outs20 mouts20 fun y3 m4 =>
    callT (lvl Try.prog HH (n + 0)).2 20 [.s (.one (.v (.int .i64 b2)))] [] outs20 mouts20 fun y5 m6 =>
    letIn (IntKind.wrap .i64 (y3.1 * y5.1) : Int) fun n7 =>
    callT (lvl Try.prog HH (n + 0)).2 35 [.s (.one (.v (.int .i64 n7))), .s (.one (.v (.int .i64 65536)))] [] outs35 mouts35 fun y8 m9 =>
    some (.s (.one (.v (.int .i64 y8.1))), []) := by kernel_rfl

/-! armplan/armplanlaw1.FixedProducts -/
theorem fn5 (n : Nat) (a1 : Int) (b2 : Int) (shift3 : Int) : (lvl Try.prog HH (n + 1)).2 5 [.s (.one (.v (.int .i64 a1))), .s (.one (.v (.int .i64 b2))), .s (.one (.v (.int .u8 shift3)))] [] =
    letIn (Int.tmod shift3 64 : Int) fun n4 =>
    bif decide (n4 < 0) then (
      none)
    else
    letIn (Int.fdiv a1 (2 ^ min n4.toNat 64) : Int) fun n5 =>
    letIn (IntKind.wrap .u8 (Int.tdiv shift3 4) : Int) fun n6 =>
    letIn (Int.tmod n6 64 : Int) fun n7 =>
    bif decide (n7 < 0) then (
      none)
    else
    letIn (Int.fdiv b2 (2 ^ min n7.toNat 64) : Int) fun n8 =>
    callT (lvl Try.prog HH (n + 0)).2 14 [] [] outs14 mouts14 fun y9 m10 =>
    bif y9.1 then (
      callT (lvl Try.prog HH (n + 0)).2 19 [.s (.one (.v (.int .i64 a1)))] [] outs19 mouts19 fun y11 m12 =>
      callT (lvl Try.prog HH (n + 0)).2 20 [.s (.one (.v (.int .i64 a1)))] [] outs20 mouts20 fun y13 m14 =>
      bif y11.1 == y13.1 then (
        callT (lvl Try.prog HH (n + 0)).2 19 [.s (.one (.v (.int .i64 n5)))] [] outs19 mouts19 fun y15 m16 =>
        callT (lvl Try.prog HH (n + 0)).2 20 [.s (.one (.v (.int .i64 n5)))] [] outs20 mouts20 fun y17 m18 =>
        bif y15.1 == y17.1 then (
          callT (lvl Try.prog HH (n + 0)).2 21 [.s (.one (.v (.int .i64 a1))), .s (.one (.v (.int .i64 b2)))] [] outs21 mouts21 fun y19 m20 =>
          callT (lvl Try.prog HH (n + 0)).2 22 [.s (.one (.v (.int .i64 a1))), .s (.one (.v (.int .i64 b2)))] [] outs22 mouts22 fun y21 m22 =>
          bif y19.1 == y21.1 then (
            callT (lvl Try.prog HH (n + 0)).2 23 [.s (.one (.v (.int .i64 a1))), .s (.one (.v (.int .i64 b2)))] [] outs23 mouts23 fun y23 m24 =>
            callT (lvl Try.prog HH (n + 0)).2 24 [.s (.one (.v (.int .i64 a1))), .s (.one (.v (.int .i64 b2)))] [] outs24 mouts24 fun y25 m26 =>
            bif y23.1 == y25.1 then (
              callT (lvl Try.prog HH (n + 0)).2 21 [.s (.one (.v (.int .i64 n5))), .s (.one (.v (.int .i64 n8)))] [] outs21 mouts21 fun y27 m28 =>
              callT (lvl Try.prog HH (n + 0)).2 22 [.s (.one (.v (.int .i64 n5))), .s (.one (.v (.int .i64 n8)))] [] outs22 mouts22 fun y29 m30 =>
              bif y27.1 == y29.1 then (
                callT (lvl Try.prog HH (n + 0)).2 23 [.s (.one (.v (.int .i64 n5))), .s (.one (.v (.int .i64 n8)))] [] outs23 mouts23 fun y31 m32 =>
                callT (lvl Try.prog HH (n + 0)).2 24 [.s (.one (.v (.int .i64 n5))), .s (.one (.v (.int .i64 n8)))] [] outs24 mouts24 fun y33 m34 =>
                some (.s (.one (.v (.bool (y31.1 == y33.1)))), []))
              else
              some (.s (.one (.v (.bool false))), []))
            else
            some (.s (.one (.v (.bool false))), []))
          else
          some (.s (.one (.v (.bool false))), []))
        else
        some (.s (.one (.v (.bool false))), []))
      else
      some (.s (.one (.v (.bool false))), []))
    else
    some (.s (.one (.v (.bool false))), []) := by kernel_rfl

end Go.Proofs.Ytdeajnmheebghaa.Am
