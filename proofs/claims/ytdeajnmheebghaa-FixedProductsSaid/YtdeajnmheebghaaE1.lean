/- PRINTED by amprint.py: what the abstract machine answers, function by function. -/
import Derived.Test.YtdeajnmheebghaaH
import Derived.KernelRfl
set_option linter.unusedVariables false
set_option maxRecDepth 100000
namespace Go.Proofs.Ytdeajnmheebghaa.Am
open Go Go.Proofs

/-! armplan/armplanlaw1.awake -/
theorem fn14 (n : Nat)  : (lvl Try.prog HH (n + 1)).2 14 [] [] =
    callT (lvl Try.prog HH (n + 0)).2 21 [.s (.one (.v (.int .i64 98304))), .s (.one (.v (.int .i64 32768)))] [] outs21 mouts21 fun y1 m2 =>
    bif y1.1 == 49152 then (
      callT (lvl Try.prog HH (n + 0)).2 12 [.s (.one (.v (.int .i64 15)))] [] outs12 mouts12 fun y3 m4 =>
      some (.s (.one (.v (.bool (y3.1 == 3)))), []))
    else
    some (.s (.one (.v (.bool false))), []) := by kernel_rfl

/-! armplan/armplanref1.Clamp -/
theorem fn20 (n : Nat) (a1 : Int) : (lvl Try.prog HH (n + 1)).2 20 [.s (.one (.v (.int .i64 a1)))] [] =
    letIn (if 2147483648 < a1 then 2147483648 else a1 : Int) fun n2 =>
    letIn (if n2 > (-2147483648) then n2 else (-2147483648) : Int) fun n3 =>
    some (.s (.one (.v (.int .i64 n3))), []) := by kernel_rfl

/-! armplan/armplanref1.Floor -/
theorem fn34 (n : Nat) (a1 : Int) (b2 : Int) : (lvl Try.prog HH (n + 1)).2 34 [.s (.one (.v (.int .i64 a1))), .s (.one (.v (.int .i64 b2)))] [] =
    bif b2 == 0 then (
      none)
    else
    letIn (IntKind.wrap .i64 (Int.tdiv a1 b2) : Int) fun n3 =>
    bif b2 == 0 then (
      none)
    else
    letIn (Int.tmod a1 b2 : Int) fun n4 =>
    bif decide (n4 < 0) then (
      letIn (IntKind.wrap .i64 (n3 - 1) : Int) fun n5 =>
      some (.s (.one (.v (.int .i64 n5))), []))
    else
    some (.s (.one (.v (.int .i64 n3))), []) := by kernel_rfl

/-! armplan/armplanref1.MulDown -/
theorem fn22 (n : Nat) (a1 : Int) (b2 : Int) : (lvl Try.prog HH (n + 1)).2 22 [.s (.one (.v (.int .i64 a1))), .s (.one (.v (.int .i64 b2)))] [] =
    callT (lvl Try.prog HH (n + 0)).2 20 [.s (.one (.v (.int .i64 a1)))] [] outs20 mouts20 fun y3 m4 =>
    callT (lvl Try.prog HH (n + 0)).2 20 [.s (.one (.v (.int .i64 b2)))] [] outs20 mouts20 fun y5 m6 =>
    letIn (IntKind.wrap .i64 (y3.1 * y5.1) : Int) fun n7 =>
    callT (lvl Try.prog HH (n + 0)).2 34 [.s (.one (.v (.int .i64 n7))), .s (.one (.v (.int .i64 65536)))] [] outs34 mouts34 fun y8 m9 =>
    some (.s (.one (.v (.int .i64 y8.1))), []) := by kernel_rfl

/-! armplan/fixed.ShiftUp -/
theorem fn17 (n : Nat) (a1 : Int) (k2 : Int) : (lvl Try.prog HH (n + 1)).2 17 [.s (.one (.v (.int .i64 a1))), .s (.one (.v (.int .i64 k2)))] [] =
    callT (lvl Try.prog HH (n + 0)).2 15 [.s (.one (.v (.int .i64 a1))), .s (.one (.v (.int .i64 k2)))] [] outs15 mouts15 fun y3 m4 =>
    bif decide (k2 ≥ 0) then (
      bif decide (k2 < 0) then (
        none)
      else
      letIn (IntKind.wrap .i64 (y3.1 * (2 ^ min k2.toNat 64)) : Int) fun n5 =>
      bif n5 != a1 then (
        letIn (IntKind.wrap .i64 (y3.1 + 1) : Int) fun n6 =>
        some (.s (.one (.v (.int .i64 n6))), []))
      else
      some (.s (.one (.v (.int .i64 y3.1))), []))
    else
    some (.s (.one (.v (.int .i64 y3.1))), []) := by kernel_rfl

end Go.Proofs.Ytdeajnmheebghaa.Am
