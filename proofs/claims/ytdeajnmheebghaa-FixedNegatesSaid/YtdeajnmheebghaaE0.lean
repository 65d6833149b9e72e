/- PRINTED by amprint.py: what the abstract machine answers, function by function. -/
import Derived.Test.YtdeajnmheebghaaH
import Derived.KernelRfl
set_option linter.unusedVariables false
set_option maxRecDepth 100000
namespace Go.Proofs.Ytdeajnmheebghaa.Am
open Go Go.Proofs

/-! armplan/fixed.Clamp -/
theorem fn19 (n : Nat) (a1 : Int) : (lvl Try.prog HH (n + 1)).2 19 [.s (.one (.v (.int .i64 a1)))] [] =
    letIn (if (-2147483648) > a1 then (-2147483648) else a1 : Int) fun n2 =>
    letIn (if 2147483648 < n2 then 2147483648 else n2 : Int) fun n3 =>
    some (.s (.one (.v (.int .i64 n3))), []) := by kernel_rfl

/-! armplan/fixed.product -/
theorem fn36 (n : Nat) (a1 : Int) (b2 : Int) : (lvl Try.prog HH (n + 1)).2 36 [.s (.one (.v (.int .i64 a1))), .s (.one (.v (.int .i64 b2)))] [] =
    callT (lvl Try.prog HH (n + 0)).2 19 [.s (.one (.v (.int .i64 a1)))] [] outs19 mouts19 fun y3 m4 =>
    callT (lvl Try.prog HH (n + 0)).2 19 [.s (.one (.v (.int .i64 b2)))] [] outs19 mouts19 fun y5 m6 =>
    letIn (IntKind.wrap .i64 (y3.1 * y5.1) : Int) fun n7 =>
    some (.s (.one (.v (.int .i64 n7))), []) := by kernel_rfl

/-! armplan/fixed.ShiftDown -/
theorem fn15 (n : Nat) (a1 : Int) (k2 : Int) : (lvl Try.prog HH (n + 1)).2 15 [.s (.one (.v (.int .i64 a1))), .s (.one (.v (.int .i64 k2)))] [] =
    bif decide (k2 < 0) then (
      some (.s (.one (.v (.int .i64 a1))), []))
    else
    bif decide (k2 < 0) then (
      none)
    else
    letIn (Int.fdiv a1 (2 ^ min k2.toNat 64) : Int) fun n3 =>
    some (.s (.one (.v (.int .i64 n3))), []) := by kernel_rfl

/-! armplan/fixed.MulDown -/
theorem fn21 (n : Nat) (a1 : Int) (b2 : Int) : (lvl Try.prog HH (n + 1)).2 21 [.s (.one (.v (.int .i64 a1))), .s (.one (.v (.int .i64 b2)))] [] =
    callT (lvl Try.prog HH (n + 0)).2 36 [.s (.one (.v (.int .i64 a1))), .s (.one (.v (.int .i64 b2)))] [] outs36 mouts36 fun y3 m4 =>
    callT (lvl Try.prog HH (n + 0)).2 15 [.s (.one (.v (.int .i64 y3.1))), .s (.one (.v (.int .i64 16)))] [] outs15 mouts15 fun y5 m6 =>
    some (.s (.one (.v (.int .i64 y5.1))), []) := by kernel_rfl

/-! armplan/fixed.Root -/
theorem loop12_0 (n : Nat) (v2 : Int) (v3 : Int) (v4 : Int) : (lvl Try.prog HH (n + 1)).1 ⟨12, 0, true⟩ 0 (loopOf Try.f12 0) (encSt S12_0 ((v2, v3, v4, ()), ())) =
    bif decide (v4 < 32) then (
      letIn (IntKind.wrap .i64 (31 - v4) : Int) fun n5 =>
      bif decide (n5 < 0) then (
        none)
      else
      letIn (IntKind.wrap .i64 (1 * (2 ^ min n5.toNat 64)) : Int) fun n6 =>
      letIn (IntKind.wrap .i64 (v3 + n6) : Int) fun n7 =>
      bif n7 == 0 then (
        none)
      else
      letIn (IntKind.wrap .i64 (Int.tdiv v2 n7) : Int) fun n8 =>
      bif decide (n7 ≤ n8) then (
        letIn (IntKind.wrap .i64 (v4 + 1) : Int) fun n9 =>
        (lvl Try.prog HH (n + 0)).1 ⟨12, 0, true⟩ 0 (loopOf Try.f12 0) (encSt S12_0 ((v2, n7, n9, ()), ())))
      else
      letIn (IntKind.wrap .i64 (v4 + 1) : Int) fun n10 =>
      (lvl Try.prog HH (n + 0)).1 ⟨12, 0, true⟩ 0 (loopOf Try.f12 0) (encSt S12_0 ((v2, v3, n10, ()), ())))
    else
    some (.exit 0, encSt S12_0_e0 ((v3, ()), ())) := by kernel_rfl

theorem fn12 (n : Nat) (n1 : Int) : (lvl Try.prog HH (n + 1)).2 12 [.s (.one (.v (.int .i64 n1)))] [] =
    bif decide (n1 ≤ 0) then (
      some (.s (.one (.v (.int .i64 0))), []))
    else
    ((lvl Try.prog HH (n + 0)).1 ⟨12, 0, true⟩ 0 (loopOf Try.f12 0) (encSt S12_0 ((n1, 0, 0, ()), ()))).bind fun p11 =>
    bif sameEx (.exit 0) p11.1 then (decSt S12_0_e0 p11.2 fun x12 =>
      some (.s (.one (.v (.int .i64 x12.1.1))), []))
    else
    none := by kernel_rfl

end Go.Proofs.Ytdeajnmheebghaa.Am
