/- PRINTED by amprint.py: what the abstract machine answers, function by function. -/
import Derived.Test.YtfpdjpleplhcgaaH
import Derived.KernelRfl
set_option linter.unusedVariables false
set_option maxRecDepth 100000
namespace Go.Proofs.Ytfpdjpleplhcgaa.Am
open Go Go.Proofs

/-! armplan/armplanlaw2.awake -/
theorem fn44 (n : Nat)  : (lvl Try.prog HH (n + 1)).2 44 [] [] =
    callT (lvl Try.prog HH (n + 0)).2 69 [.s (.agg true [.v (.int .i64 (-3)), .v (.int .i64 5)]), .s (.agg true [.v (.int .i64 65536), .v (.int .i64 131072)])] [] outs69 mouts69 fun y1 m2 =>
    letIn ((y1.1.1 == (-6)) && ((y1.1.2.1 == 10) && true) : Bool) fun b3 =>
    bif b3 then (
      callT (lvl Try.prog HH (n + 0)).2 46 [.s (.one (.v (.int .i64 2)))] [] outs46 mouts46 fun y4 m5 =>
      callT (lvl Try.prog HH (n + 0)).2 46 [.s (.one (.v (.int .i64 3)))] [] outs46 mouts46 fun y6 m7 =>
      callT (lvl Try.prog HH (n + 0)).2 67 [.s (.agg true [.v (.int .i64 y4.1.1), .v (.int .i64 y4.1.2.1)]), .s (.agg true [.v (.int .i64 y6.1.1), .v (.int .i64 y6.1.2.1)])] [] outs67 mouts67 fun y8 m9 =>
      callT (lvl Try.prog HH (n + 0)).2 46 [.s (.one (.v (.int .i64 5)))] [] outs46 mouts46 fun y10 m11 =>
      letIn ((y8.1.1 == y10.1.1) && ((y8.1.2.1 == y10.1.2.1) && true) : Bool) fun b12 =>
      some (.s (.one (.v (.bool b12))), []))
    else
    some (.s (.one (.v (.bool false))), []) := by kernel_rfl

/-! armplan/fixed.Root -/
theorem loop170_0 (n : Nat) (v2 : Int) (v3 : Int) (v4 : Int) : (lvl Try.prog HH (n + 1)).1 ⟨170, 0, true⟩ 0 (loopOf Try.f170 0) (encSt S170_0 ((v2, v3, v4, ()), ())) =
    bif decide (v4 < 32) then (
      letIn (IntKind.wrap .i64 (31 - v4) : Int) fun n5 =>
      bif decide (n5 < 0) then (
        none)
      else
      letIn (IntKind.wrap .i64 (1 * (2 ^ min n5.toNat 64)) : Int) fun n6 =>
      letIn (IntKind.wrap .i64 (v3 + n6) : Int) fun n7 =>
      bif n7 == 0 then (
        none)
      else
      letIn (IntKind.wrap .i64 (Int.tdiv v2 n7) : Int) fun n8 =>
      bif decide (n7 ≤ n8) then (
        letIn (IntKind.wrap .i64 (v4 + 1) : Int) fun n9 =>
        (lvl Try.prog HH (n + 0)).1 ⟨170, 0, true⟩ 0 (loopOf Try.f170 0) (encSt S170_0 ((v2, n7, n9, ()), ())))
      else
      letIn (IntKind.wrap .i64 (v4 + 1) : Int) fun n10 =>
      (lvl Try.prog HH (n + 0)).1 ⟨170, 0, true⟩ 0 (loopOf Try.f170 0) (encSt S170_0 ((v2, v3, n10, ()), ())))
    else
    some (.exit 0, encSt S170_0_e0 ((v3, ()), ())) := by kernel_rfl

theorem fn170 (n : Nat) (n1 : Int) : (lvl Try.prog HH (n + 1)).2 170 [.s (.one (.v (.int .i64 n1)))] [] =
    bif decide (n1 ≤ 0) then (
      some (.s (.one (.v (.int .i64 0))), []))
    else
    ((lvl Try.prog HH (n + 0)).1 ⟨170, 0, true⟩ 0 (loopOf Try.f170 0) (encSt S170_0 ((n1, 0, 0, ()), ()))).bind fun p11 =>
    bif sameEx (.exit 0) p11.1 then (decSt S170_0_e0 p11.2 fun x12 =>
      some (.s (.one (.v (.int .i64 x12.1.1))), []))
    else
    none := by kernel_rfl

/-! armplan/fixed.SqrtDown -/
theorem fn135 (n : Nat) (a1 : Int) : (lvl Try.prog HH (n + 1)).2 135 [.s (.one (.v (.int .i64 a1)))] [] =
    callT (lvl Try.prog HH (n + 0)).2 129 [.s (.one (.v (.int .i64 a1)))] [] outs129 mouts129 fun y2 m3 =>
    letIn (if 0 > y2.1 then 0 else y2.1 : Int) fun n4 =>
    letIn (IntKind.wrap .i64 (n4 * 65536) : Int) fun n5 =>
    callT (lvl Try.prog HH (n + 0)).2 170 [.s (.one (.v (.int .i64 n5)))] [] outs170 mouts170 fun y6 m7 =>
    some (.s (.one (.v (.int .i64 y6.1))), []) := by kernel_rfl

/-! armplan/fixed.RootUp -/
theorem fn120 (n : Nat) (n1 : Int) : (lvl Try.prog HH (n + 1)).2 120 [.s (.one (.v (.int .i64 n1)))] [] =
    callT (lvl Try.prog HH (n + 0)).2 170 [.s (.one (.v (.int .i64 n1)))] [] outs170 mouts170 fun y2 m3 =>
    letIn (IntKind.wrap .i64 (y2.1 * y2.1) : Int) fun n4 =>
    bif decide (n4 < n1) then (
      letIn (IntKind.wrap .i64 (y2.1 + 1) : Int) fun n5 =>
      some (.s (.one (.v (.int .i64 n5))), []))
    else
    some (.s (.one (.v (.int .i64 y2.1))), []) := by kernel_rfl

/-! armplan/fixed.SqrtUp -/
theorem fn136 (n : Nat) (a1 : Int) : (lvl Try.prog HH (n + 1)).2 136 [.s (.one (.v (.int .i64 a1)))] [] =
    callT (lvl Try.prog HH (n + 0)).2 129 [.s (.one (.v (.int .i64 a1)))] [] outs129 mouts129 fun y2 m3 =>
    letIn (if 0 > y2.1 then 0 else y2.1 : Int) fun n4 =>
    letIn (IntKind.wrap .i64 (n4 * 65536) : Int) fun n5 =>
    callT (lvl Try.prog HH (n + 0)).2 120 [.s (.one (.v (.int .i64 n5)))] [] outs120 mouts120 fun y6 m7 =>
    some (.s (.one (.v (.int .i64 y6.1))), []) := by kernel_rfl

end Go.Proofs.Ytfpdjpleplhcgaa.Am
