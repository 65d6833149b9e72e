/- PRINTED by amprint.py: what the abstract machine answers, function by function. -/
import Derived.Test.YtdeajnmheebghaaH
import Derived.KernelRfl
set_option linter.unusedVariables false
set_option maxRecDepth 100000
namespace Go.Proofs.Ytdeajnmheebghaa.Am
open Go Go.Proofs

/-! armplan/armplanlaw1.awake -/
theorem fn14 (n : Nat)  : (lvl Try.prog HH (n + 1)).2 14 [] [] =
    callT (lvl Try.prog HH (n + 0)).2 21 [.s (.one (.v (.int .i64 98304))), .s (.one (.v (.int .i64 32768)))] [] outs21 mouts21 fun y1 m2 =>
    bif y1.1 == 49152 then (
      callT (lvl Try.prog HH (n + 0)).2 12 [.s (.one (.v (.int .i64 15)))] [] outs12 mouts12 fun y3 m4 =>
      some (.s (.one (.v (.bool (y3.1 == 3)))), []))
    else
    some (.s (.one (.v (.bool false))), []) := by kernel_rfl

/-! armplan/armplanlaw1.FixedInverse -/
theorem fn9 (n : Nat) (a1 : Int) (b2 : Int) (shift3 : Int) : (lvl Try.prog HH (n + 1)).2 9 [.s (.one (.v (.int .i64 a1))), .s (.one (.v (.int .i64 b2))), .s (.one (.v (.int .u8 shift3)))] [] =
    letIn (Int.tmod shift3 64 : Int) fun n4 =>
    bif decide (n4 < 0) then (
      none)
    else
    letIn (Int.fdiv a1 (2 ^ min n4.toNat 64) : Int) fun n5 =>
    callT (lvl Try.prog HH (n + 0)).2 20 [.s (.one (.v (.int .i64 n5)))] [] outs20 mouts20 fun y6 m7 =>
    letIn (IntKind.wrap .u8 (Int.tdiv shift3 4) : Int) fun n8 =>
    letIn (Int.tmod n8 64 : Int) fun n9 =>
    bif decide (n9 < 0) then (
      none)
    else
    letIn (Int.fdiv b2 (2 ^ min n9.toNat 64) : Int) fun n10 =>
    callT (lvl Try.prog HH (n + 0)).2 20 [.s (.one (.v (.int .i64 n10)))] [] outs20 mouts20 fun y11 m12 =>
    callT (lvl Try.prog HH (n + 0)).2 31 [.s (.one (.v (.int .i64 y6.1))), .s (.one (.v (.int .i64 y11.1)))] [] outs31 mouts31 fun y13 m14 =>
    bif decide (y11.1 < 1) then (
      callT (lvl Try.prog HH (n + 0)).2 14 [] [] outs14 mouts14 fun y15 m16 =>
      some (.s (.one (.v (.bool y15.1))), []))
    else
    bif decide (y13.1 < (-2147483648)) then (
      callT (lvl Try.prog HH (n + 0)).2 14 [] [] outs14 mouts14 fun y17 m18 =>
      some (.s (.one (.v (.bool y17.1))), []))
    else
    bif decide (y13.1 > 2147483648) then (
      callT (lvl Try.prog HH (n + 0)).2 14 [] [] outs14 mouts14 fun y19 m20 =>
      some (.s (.one (.v (.bool y19.1))), []))
    else
    callT (lvl Try.prog HH (n + 0)).2 21 [.s (.one (.v (.int .i64 y13.1))), .s (.one (.v (.int .i64 y11.1)))] [] outs21 mouts21 fun y21 m22 =>
    callT (lvl Try.prog HH (n + 0)).2 14 [] [] outs14 mouts14 fun y23 m24 =>
    bif y23.1 then (
      bif y13.2.1 then (
        bif decide (y21.1 ≤ y6.1) then (
          letIn (IntKind.wrap .i64 (y6.1 - y21.1) : Int) fun n25 =>
          letIn (IntKind.wrap .i64 (Int.tdiv y11.1 65536) : Int) fun n26 =>
          letIn (IntKind.wrap .i64 (n26 + 1) : Int) fun n27 =>
          some (.s (.one (.v (.bool (decide (n25 ≤ n27))))), []))
        else
        some (.s (.one (.v (.bool false))), []))
      else
      some (.s (.one (.v (.bool false))), []))
    else
    some (.s (.one (.v (.bool false))), []) := by kernel_rfl

end Go.Proofs.Ytdeajnmheebghaa.Am
