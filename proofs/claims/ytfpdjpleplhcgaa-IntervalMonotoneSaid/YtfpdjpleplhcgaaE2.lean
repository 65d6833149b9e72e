/- PRINTED by amprint.py: what the abstract machine answers, function by function. -/
import Derived.Test.YtfpdjpleplhcgaaH
import Derived.KernelRfl
set_option linter.unusedVariables false
set_option maxRecDepth 100000
namespace Go.Proofs.Ytfpdjpleplhcgaa.Am
open Go Go.Proofs

/-! armplan/interval.Neg -/
theorem fn73 (n : Nat) (a1 : Int) (a2 : Int) : (lvl Try.prog HH (n + 1)).2 73 [.s (.agg true [.v (.int .i64 a1), .v (.int .i64 a2)])] [] =
    callT (lvl Try.prog HH (n + 0)).2 48 [.s (.agg true [.v (.int .i64 a1), .v (.int .i64 a2)])] [] outs48 mouts48 fun y3 m4 =>
    bif !y3.1 then (
      some (.s (.agg true [.v (.int .i64 0), .v (.int .i64 0)]), []))
    else
    letIn (IntKind.wrap .i64 (0 - a2) : Int) fun n5 =>
    letIn (IntKind.wrap .i64 (0 - a1) : Int) fun n6 =>
    some (.s (.agg true [.v (.int .i64 n5), .v (.int .i64 n6)]), []) := by kernel_rfl

/-! armplan/interval.Square -/
theorem fn72 (n : Nat) (a1 : Int) (a2 : Int) : (lvl Try.prog HH (n + 1)).2 72 [.s (.agg true [.v (.int .i64 a1), .v (.int .i64 a2)])] [] =
    callT (lvl Try.prog HH (n + 0)).2 48 [.s (.agg true [.v (.int .i64 a1), .v (.int .i64 a2)])] [] outs48 mouts48 fun y3 m4 =>
    bif !y3.1 then (
      some (.s (.agg true [.v (.int .i64 0), .v (.int .i64 0)]), []))
    else
    letIn (IntKind.wrap .i64 (a1 * a1) : Int) fun n5 =>
    letIn (IntKind.wrap .i64 (a2 * a2) : Int) fun n6 =>
    bif decide (a1 ≤ 0) then (
      bif decide (a2 ≥ 0) then (
        letIn (if n6 > n5 then n6 else n5 : Int) fun n7 =>
        callT (lvl Try.prog HH (n + 0)).2 115 [.s (.one (.v (.int .i64 0))), .s (.one (.v (.int .i64 n7)))] [] outs115 mouts115 fun y8 m9 =>
        some (.s (.agg true [.v (.int .i64 y8.1.1), .v (.int .i64 y8.1.2.1)]), []))
      else
      letIn (if n6 < n5 then n6 else n5 : Int) fun n10 =>
      letIn (if n6 > n5 then n6 else n5 : Int) fun n11 =>
      callT (lvl Try.prog HH (n + 0)).2 115 [.s (.one (.v (.int .i64 n10))), .s (.one (.v (.int .i64 n11)))] [] outs115 mouts115 fun y12 m13 =>
      some (.s (.agg true [.v (.int .i64 y12.1.1), .v (.int .i64 y12.1.2.1)]), []))
    else
    letIn (if n6 < n5 then n6 else n5 : Int) fun n14 =>
    letIn (if n6 > n5 then n6 else n5 : Int) fun n15 =>
    callT (lvl Try.prog HH (n + 0)).2 115 [.s (.one (.v (.int .i64 n14))), .s (.one (.v (.int .i64 n15)))] [] outs115 mouts115 fun y16 m17 =>
    some (.s (.agg true [.v (.int .i64 y16.1.1), .v (.int .i64 y16.1.2.1)]), []) := by kernel_rfl

/-! armplan/fixed.Root -/
theorem loop170_0 (n : Nat) (v2 : Int) (v3 : Int) (v4 : Int) : (lvl Try.prog HH (n + 1)).1 ⟨170, 0, true⟩ 0 (loopOf Try.f170 0) (encSt S170_0 ((v2, v3, v4, ()), ())) =
    bif decide (v4 < 32) then (
      letIn (IntKind.wrap .i64 (31 - v4) : Int) fun n5 =>
      bif decide (n5 < 0) then (
        none)
      else
      letIn (IntKind.wrap .i64 (1 * (2 ^ min n5.toNat 64)) : Int) fun n6 =>
      letIn (IntKind.wrap .i64 (v3 + n6) : Int) fun n7 =>
      bif n7 == 0 then (
        none)
      else
      letIn (IntKind.wrap .i64 (Int.tdiv v2 n7) : Int) fun n8 =>
      bif decide (n7 ≤ n8) then (
        letIn (IntKind.wrap .i64 (v4 + 1) : Int) fun n9 =>
        (lvl Try.prog HH (n + 0)).1 ⟨170, 0, true⟩ 0 (loopOf Try.f170 0) (encSt S170_0 ((v2, n7, n9, ()), ())))
      else
      letIn (IntKind.wrap .i64 (v4 + 1) : Int) fun n10 =>
      (lvl Try.prog HH (n + 0)).1 ⟨170, 0, true⟩ 0 (loopOf Try.f170 0) (encSt S170_0 ((v2, v3, n10, ()), ())))
    else
    some (.exit 0, encSt S170_0_e0 ((v3, ()), ())) := by kernel_rfl

theorem fn170 (n : Nat) (n1 : Int) : (lvl Try.prog HH (n + 1)).2 170 [.s (.one (.v (.int .i64 n1)))] [] =
    bif decide (n1 ≤ 0) then (
      some (.s (.one (.v (.int .i64 0))), []))
    else
    ((lvl Try.prog HH (n + 0)).1 ⟨170, 0, true⟩ 0 (loopOf Try.f170 0) (encSt S170_0 ((n1, 0, 0, ()), ()))).bind fun p11 =>
    bif sameEx (.exit 0) p11.1 then (decSt S170_0_e0 p11.2 fun x12 =>
      some (.s (.one (.v (.int .i64 x12.1.1))), []))
    else
    none := by kernel_rfl

/-! armplan/fixed.SqrtDown -/
theorem fn135 (n : Nat) (a1 : Int) : (lvl Try.prog HH (n + 1)).2 135 [.s (.one (.v (.int .i64 a1)))] [] =
    callT (lvl Try.prog HH (n + 0)).2 129 [.s (.one (.v (.int .i64 a1)))] [] outs129 mouts129 fun y2 m3 =>
    letIn (if 0 > y2.1 then 0 else y2.1 : Int) fun n4 =>
    letIn (IntKind.wrap .i64 (n4 * 65536) : Int) fun n5 =>
    callT (lvl Try.prog HH (n + 0)).2 170 [.s (.one (.v (.int .i64 n5)))] [] outs170 mouts170 fun y6 m7 =>
    some (.s (.one (.v (.int .i64 y6.1))), []) := by kernel_rfl

/-! armplan/fixed.RootUp -/
theorem fn120 (n : Nat) (n1 : Int) : (lvl Try.prog HH (n + 1)).2 120 [.s (.one (.v (.int .i64 n1)))] [] =
    callT (lvl Try.prog HH (n + 0)).2 170 [.s (.one (.v (.int .i64 n1)))] [] outs170 mouts170 fun y2 m3 =>
    letIn (IntKind.wrap .i64 (y2.1 * y2.1) : Int) fun n4 =>
    bif decide (n4 < n1) then (
      letIn (IntKind.wrap .i64 (y2.1 + 1) : Int) fun n5 =>
      some (.s (.one (.v (.int .i64 n5))), []))
    else
    some (.s (.one (.v (.int .i64 y2.1))), []) := by kernel_rfl

/-! armplan/fixed.SqrtUp -/
theorem fn136 (n : Nat) (a1 : Int) : (lvl Try.prog HH (n + 1)).2 136 [.s (.one (.v (.int .i64 a1)))] [] =
    callT (lvl Try.prog HH (n + 0)).2 129 [.s (.one (.v (.int .i64 a1)))] [] outs129 mouts129 fun y2 m3 =>
    letIn (if 0 > y2.1 then 0 else y2.1 : Int) fun n4 =>
    letIn (IntKind.wrap .i64 (n4 * 65536) : Int) fun n5 =>
    callT (lvl Try.prog HH (n + 0)).2 120 [.s (.one (.v (.int .i64 n5)))] [] outs120 mouts120 fun y6 m7 =>
    some (.s (.one (.v (.int .i64 y6.1))), []) := by kernel_rfl

/-! armplan/interval.Sqrt -/
theorem fn81 (n : Nat) (a1 : Int) (a2 : Int) : (lvl Try.prog HH (n + 1)).2 81 [.s (.agg true [.v (.int .i64 a1), .v (.int .i64 a2)])] [] =
    callT (lvl Try.prog HH (n + 0)).2 48 [.s (.agg true [.v (.int .i64 a1), .v (.int .i64 a2)])] [] outs48 mouts48 fun y3 m4 =>
    bif !y3.1 then (
      some (.s (.agg true [.v (.int .i64 0), .v (.int .i64 0)]), []))
    else
    callT (lvl Try.prog HH (n + 0)).2 135 [.s (.one (.v (.int .i64 a1)))] [] outs135 mouts135 fun y5 m6 =>
    callT (lvl Try.prog HH (n + 0)).2 136 [.s (.one (.v (.int .i64 a2)))] [] outs136 mouts136 fun y7 m8 =>
    some (.s (.agg true [.v (.int .i64 y5.1), .v (.int .i64 y7.1)]), []) := by kernel_rfl

/-! armplan/interval.Scale -/
theorem fn79 (n : Nat) (a1 : Int) (a2 : Int) (k3 : Int) : (lvl Try.prog HH (n + 1)).2 79 [.s (.agg true [.v (.int .i64 a1), .v (.int .i64 a2)]), .s (.one (.v (.int .i64 k3)))] [] =
    callT (lvl Try.prog HH (n + 0)).2 48 [.s (.agg true [.v (.int .i64 a1), .v (.int .i64 a2)])] [] outs48 mouts48 fun y4 m5 =>
    bif !y4.1 then (
      some (.s (.agg true [.v (.int .i64 0), .v (.int .i64 0)]), []))
    else
    callT (lvl Try.prog HH (n + 0)).2 129 [.s (.one (.v (.int .i64 k3)))] [] outs129 mouts129 fun y6 m7 =>
    letIn (IntKind.wrap .i64 (a1 * y6.1) : Int) fun n8 =>
    callT (lvl Try.prog HH (n + 0)).2 129 [.s (.one (.v (.int .i64 k3)))] [] outs129 mouts129 fun y9 m10 =>
    letIn (IntKind.wrap .i64 (a2 * y9.1) : Int) fun n11 =>
    letIn (if n11 < n8 then n11 else n8 : Int) fun n12 =>
    letIn (if n11 > n8 then n11 else n8 : Int) fun n13 =>
    callT (lvl Try.prog HH (n + 0)).2 107 [.s (.one (.v (.int .i64 n12))), .s (.one (.v (.int .i64 n13)))] [] outs107 mouts107 fun y14 m15 =>
    some (.s (.agg true [.v (.int .i64 y14.1.1), .v (.int .i64 y14.1.2.1)]), []) := by kernel_rfl

end Go.Proofs.Ytfpdjpleplhcgaa.Am
