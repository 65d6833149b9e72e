/- PRINTED by amprint.py: what the abstract machine answers, function by function. -/
import Derived.Test.YtdeajnmheebghaaH
import Derived.KernelRfl
set_option linter.unusedVariables false
set_option maxRecDepth 100000
namespace Go.Proofs.Ytdeajnmheebghaa.Am
open Go Go.Proofs

/-! armplan/fixed.ShiftUp -/
theorem fn17 (n : Nat) (a1 : Int) (k2 : Int) : (lvl Try.prog HH (n + 1)).2 17 [.s (.one (.v (.int .i64 a1))), .s (.one (.v (.int .i64 k2)))] [] =
    callT (lvl Try.prog HH (n + 0)).2 15 [.s (.one (.v (.int .i64 a1))), .s (.one (.v (.int .i64 k2)))] [] outs15 mouts15 fun y3 m4 =>
    bif decide (k2 ≥ 0) then (
      bif decide (k2 < 0) then (
        none)
      else
      letIn (IntKind.wrap .i64 (y3.1 * (2 ^ min k2.toNat 64)) : Int) fun n5 =>
      bif n5 != a1 then (
        letIn (IntKind.wrap .i64 (y3.1 + 1) : Int) fun n6 =>
        some (.s (.one (.v (.int .i64 n6))), []))
      else
      some (.s (.one (.v (.int .i64 y3.1))), []))
    else
    some (.s (.one (.v (.int .i64 y3.1))), []) := by kernel_rfl

/-! armplan/fixed.MulUp -/
theorem fn23 (n : Nat) (a1 : Int) (b2 : Int) : (lvl Try.prog HH (n + 1)).2 23 [.s (.one (.v (.int .i64 a1))), .s (.one (.v (.int .i64 b2)))] [] =
    callT (lvl Try.prog HH (n + 0)).2 36 [.s (.one (.v (.int .i64 a1))), .s (.one (.v (.int .i64 b2)))] [] outs36 mouts36 fun y3 m4 =>
    callT (lvl Try.prog HH (n + 0)).2 17 [.s (.one (.v (.int .i64 y3.1))), .s (.one (.v (.int .i64 16)))] [] outs17 mouts17 fun y5 m6 =>
    some (.s (.one (.v (.int .i64 y5.1))), []) := by kernel_rfl

/-! armplan/armplanlaw1.FixedMonotone -/
theorem fn7 (n : Nat) (a1 : Int) (b2 : Int) (c3 : Int) (shift4 : Int) : (lvl Try.prog HH (n + 1)).2 7 [.s (.one (.v (.int .i64 a1))), .s (.one (.v (.int .i64 b2))), .s (.one (.v (.int .i64 c3))), .s (.one (.v (.int .u8 shift4)))] [] =
    letIn (Int.tmod shift4 64 : Int) fun n5 =>
    bif decide (n5 < 0) then (
      none)
    else
    letIn (Int.fdiv a1 (2 ^ min n5.toNat 64) : Int) fun n6 =>
    letIn (IntKind.wrap .u8 (Int.tdiv shift4 4) : Int) fun n7 =>
    letIn (Int.tmod n7 64 : Int) fun n8 =>
    bif decide (n8 < 0) then (
      none)
    else
    letIn (Int.fdiv b2 (2 ^ min n8.toNat 64) : Int) fun n9 =>
    letIn (Int.tmod shift4 64 : Int) fun n10 =>
    bif decide (n10 < 0) then (
      none)
    else
    letIn (Int.fdiv c3 (2 ^ min n10.toNat 64) : Int) fun n11 =>
    bif decide (n9 < 0) then (
      callT (lvl Try.prog HH (n + 0)).2 14 [] [] outs14 mouts14 fun y12 m13 =>
      some (.s (.one (.v (.bool y12.1))), []))
    else
    bif decide (n6 > n11) then (
      callT (lvl Try.prog HH (n + 0)).2 14 [] [] outs14 mouts14 fun y14 m15 =>
      some (.s (.one (.v (.bool y14.1))), []))
    else
    callT (lvl Try.prog HH (n + 0)).2 14 [] [] outs14 mouts14 fun y16 m17 =>
    bif y16.1 then (
      callT (lvl Try.prog HH (n + 0)).2 21 [.s (.one (.v (.int .i64 n6))), .s (.one (.v (.int .i64 n9)))] [] outs21 mouts21 fun y18 m19 =>
      callT (lvl Try.prog HH (n + 0)).2 21 [.s (.one (.v (.int .i64 n11))), .s (.one (.v (.int .i64 n9)))] [] outs21 mouts21 fun y20 m21 =>
      bif decide (y18.1 ≤ y20.1) then (
        callT (lvl Try.prog HH (n + 0)).2 23 [.s (.one (.v (.int .i64 n9))), .s (.one (.v (.int .i64 n6)))] [] outs23 mouts23 fun y22 m23 =>
        callT (lvl Try.prog HH (n + 0)).2 23 [.s (.one (.v (.int .i64 n9))), .s (.one (.v (.int .i64 n11)))] [] outs23 mouts23 fun y24 m25 =>
        some (.s (.one (.v (.bool (decide (y22.1 ≤ y24.1))))), []))
      else
      some (.s (.one (.v (.bool false))), []))
    else
    some (.s (.one (.v (.bool false))), []) := by kernel_rfl

end Go.Proofs.Ytdeajnmheebghaa.Am
