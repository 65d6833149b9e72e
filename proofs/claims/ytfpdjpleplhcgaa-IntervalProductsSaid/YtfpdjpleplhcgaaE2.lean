/- PRINTED by amprint.py: what the abstract machine answers, function by function. -/
import Derived.Test.YtfpdjpleplhcgaaH
import Derived.KernelRfl
set_option linter.unusedVariables false
set_option maxRecDepth 100000
namespace Go.Proofs.Ytfpdjpleplhcgaa.Am
open Go Go.Proofs

/-! armplan/fixed.Root -/
theorem loop170_0 (n : Nat) (v2 : Int) (v3 : Int) (v4 : Int) : (lvl Try.prog HH (n + 1)).1 ⟨170, 0, true⟩ 0 (loopOf Try.f170 0) (encSt S170_0 ((v2, v3, v4, ()), ())) =
    bif decide (v4 < 32) then (
      letIn (IntKind.wrap .i64 (31 - v4) : Int) fun n5 =>
      bif decide (n5 < 0) then (
        none)
      else
      letIn (IntKind.wrap .i64 (1 * (2 ^ min n5.toNat 64)) : Int) fun n6 =>
      letIn (IntKind.wrap .i64 (v3 + n6) : Int) fun n7 =>
      bif n7 == 0 then (
        none)
      else
      letIn (IntKind.wrap .i64 (Int.tdiv v2 n7) : Int) fun n8 =>
      bif decide (n7 ≤ n8) then (
        letIn (IntKind.wrap .i64 (v4 + 1) : Int) fun n9 =>
        (lvl Try.prog HH (n + 0)).1 ⟨170, 0, true⟩ 0 (loopOf Try.f170 0) (encSt S170_0 ((v2, n7, n9, ()), ())))
      else
      letIn (IntKind.wrap .i64 (v4 + 1) : Int) fun n10 =>
      (lvl Try.prog HH (n + 0)).1 ⟨170, 0, true⟩ 0 (loopOf Try.f170 0) (encSt S170_0 ((v2, v3, n10, ()), ())))
    else
    some (.exit 0, encSt S170_0_e0 ((v3, ()), ())) := by kernel_rfl

theorem fn170 (n : Nat) (n1 : Int) : (lvl Try.prog HH (n + 1)).2 170 [.s (.one (.v (.int .i64 n1)))] [] =
    bif decide (n1 ≤ 0) then (
      some (.s (.one (.v (.int .i64 0))), []))
    else
    ((lvl Try.prog HH (n + 0)).1 ⟨170, 0, true⟩ 0 (loopOf Try.f170 0) (encSt S170_0 ((n1, 0, 0, ()), ()))).bind fun p11 =>
    bif sameEx (.exit 0) p11.1 then (decSt S170_0_e0 p11.2 fun x12 =>
      some (.s (.one (.v (.int .i64 x12.1.1))), []))
    else
    none := by kernel_rfl

/-! armplan/fixed.SqrtDown -/
theorem fn135 (n : Nat) (a1 : Int) : (lvl Try.prog HH (n + 1)).2 135 [.s (.one (.v (.int .i64 a1)))] [] =
    callT (lvl Try.prog HH (n + 0)).2 129 [.s (.one (.v (.int .i64 a1)))] [] outs129 mouts129 fun y2 m3 =>
    letIn (if 0 > y2.1 then 0 else y2.1 : Int) fun n4 =>
    letIn (IntKind.wrap .i64 (n4 * 65536) : Int) fun n5 =>
    callT (lvl Try.prog HH (n + 0)).2 170 [.s (.one (.v (.int .i64 n5)))] [] outs170 mouts170 fun y6 m7 =>
    some (.s (.one (.v (.int .i64 y6.1))), []) := by kernel_rfl

/-! armplan/fixed.RootUp -/
theorem fn120 (n : Nat) (n1 : Int) : (lvl Try.prog HH (n + 1)).2 120 [.s (.one (.v (.int .i64 n1)))] [] =
    callT (lvl Try.prog HH (n + 0)).2 170 [.s (.one (.v (.int .i64 n1)))] [] outs170 mouts170 fun y2 m3 =>
    letIn (IntKind.wrap .i64 (y2.1 * y2.1) : Int) fun n4 =>
    bif decide (n4 < n1) then (
      letIn (IntKind.wrap .i64 (y2.1 + 1) : Int) fun n5 =>
      some (.s (.one (.v (.int .i64 n5))), []))
    else
    some (.s (.one (.v (.int .i64 y2.1))), []) := by kernel_rfl

/-! armplan/fixed.SqrtUp -/
theorem fn136 (n : Nat) (a1 : Int) : (lvl Try.prog HH (n + 1)).2 136 [.s (.one (.v (.int .i64 a1)))] [] =
    callT (lvl Try.prog HH (n + 0)).2 129 [.s (.one (.v (.int .i64 a1)))] [] outs129 mouts129 fun y2 m3 =>
    letIn (if 0 > y2.1 then 0 else y2.1 : Int) fun n4 =>
    letIn (IntKind.wrap .i64 (n4 * 65536) : Int) fun n5 =>
    callT (lvl Try.prog HH (n + 0)).2 120 [.s (.one (.v (.int .i64 n5)))] [] outs120 mouts120 fun y6 m7 =>
    some (.s (.one (.v (.int .i64 y6.1))), []) := by kernel_rfl

/-! armplan/interval.Sqrt -/
theorem fn81 (n : Nat) (a1 : Int) (a2 : Int) : (lvl Try.prog HH (n + 1)).2 81 [.s (.agg true [.v (.int .i64 a1), .v (.int .i64 a2)])] [] =
    callT (lvl Try.prog HH (n + 0)).2 48 [.s (.agg true [.v (.int .i64 a1), .v (.int .i64 a2)])] [] outs48 mouts48 fun y3 m4 =>
    bif !y3.1 then (
      some (.s (.agg true [.v (.int .i64 0), .v (.int .i64 0)]), []))
    else
    callT (lvl Try.prog HH (n + 0)).2 135 [.s (.one (.v (.int .i64 a1)))] [] outs135 mouts135 fun y5 m6 =>
    callT (lvl Try.prog HH (n + 0)).2 136 [.s (.one (.v (.int .i64 a2)))] [] outs136 mouts136 fun y7 m8 =>
    some (.s (.agg true [.v (.int .i64 y5.1), .v (.int .i64 y7.1)]), []) := by kernel_rfl

/-! armplan/armplanref1.Root -/
theorem loop185_0 (n : Nat) (v2 : Int) (v3 : Int) (v4 : Int) : (lvl Try.prog HH (n + 1)).1 ⟨185, 0, true⟩ 0 (loopOf Try.f185 0) (encSt S185_0 ((v2, v3, v4, ()), ())) =
    letIn (IntKind.wrap .i64 (v4 - v3) : Int) fun n5 =>
    bif decide (n5 > 1) then (
      letIn (IntKind.wrap .i64 (v4 - v3) : Int) fun n6 =>
      letIn (IntKind.wrap .i64 (Int.tdiv n6 2) : Int) fun n7 =>
      letIn (IntKind.wrap .i64 (v3 + n7) : Int) fun n8 =>
      bif n8 == 0 then (
        none)
      else
      letIn (IntKind.wrap .i64 (Int.tdiv v2 n8) : Int) fun n9 =>
      bif decide (n8 ≤ n9) then (
        (lvl Try.prog HH (n + 0)).1 ⟨185, 0, true⟩ 0 (loopOf Try.f185 0) (encSt S185_0 ((v2, n8, v4, ()), ())))
      else
      (lvl Try.prog HH (n + 0)).1 ⟨185, 0, true⟩ 0 (loopOf Try.f185 0) (encSt S185_0 ((v2, v3, n8, ()), ())))
    else
    some (.exit 0, encSt S185_0_e0 ((v3, ()), ())) := by kernel_rfl

theorem fn185 (n : Nat) (n1 : Int) : (lvl Try.prog HH (n + 1)).2 185 [.s (.one (.v (.int .i64 n1)))] [] =
    bif decide (n1 < 1) then (
      some (.s (.one (.v (.int .i64 0))), []))
    else
    ((lvl Try.prog HH (n + 0)).1 ⟨185, 0, true⟩ 0 (loopOf Try.f185 0) (encSt S185_0 ((n1, 1, 4294967296, ()), ()))).bind fun p10 =>
    bif sameEx (.exit 0) p10.1 then (decSt S185_0_e0 p10.2 fun x11 =>
      some (.s (.one (.v (.int .i64 x11.1.1))), []))
    else
    none := by kernel_rfl

/-! armplan/armplanref1.SqrtDown -/
theorem fn171 (n : Nat) (a1 : Int) : (lvl Try.prog HH (n + 1)).2 171 [.s (.one (.v (.int .i64 a1)))] [] =
    callT (lvl Try.prog HH (n + 0)).2 102 [.s (.one (.v (.int .i64 a1)))] [] outs102 mouts102 fun y2 m3 =>
    letIn (if 0 > y2.1 then 0 else y2.1 : Int) fun n4 =>
    letIn (IntKind.wrap .i64 (n4 * 65536) : Int) fun n5 =>
    callT (lvl Try.prog HH (n + 0)).2 185 [.s (.one (.v (.int .i64 n5)))] [] outs185 mouts185 fun y6 m7 =>
    some (.s (.one (.v (.int .i64 y6.1))), []) := by kernel_rfl

/-! armplan/armplanref1.RootUp -/
theorem fn169 (n : Nat) (n1 : Int) : (lvl Try.prog HH (n + 1)).2 169 [.s (.one (.v (.int .i64 n1)))] [] =
    callT (lvl Try.prog HH (n + 0)).2 185 [.s (.one (.v (.int .i64 n1)))] [] outs185 mouts185 fun y2 m3 =>
    bif decide (n1 > 0) then (
      letIn (IntKind.wrap .i64 (y2.1 * y2.1) : Int) fun n4 =>
      bif decide (n4 < n1) then (
        letIn (IntKind.wrap .i64 (y2.1 + 1) : Int) fun n5 =>
        some (.s (.one (.v (.int .i64 n5))), []))
      else
      some (.s (.one (.v (.int .i64 y2.1))), []))
    else
    some (.s (.one (.v (.int .i64 y2.1))), []) := by kernel_rfl

/-! armplan/armplanref1.SqrtUp -/
theorem fn172 (n : Nat) (a1 : Int) : (lvl Try.prog HH (n + 1)).2 172 [.s (.one (.v (.int .i64 a1)))] [] =
    callT (lvl Try.prog HH (n + 0)).2 102 [.s (.one (.v (.int .i64 a1)))] [] outs102 mouts102 fun y2 m3 =>
    letIn (if 0 > y2.1 then 0 else y2.1 : Int) fun n4 =>
    letIn (IntKind.wrap .i64 (n4 * 65536) : Int) fun n5 =>
    callT (lvl Try.prog HH (n + 0)).2 169 [.s (.one (.v (.int .i64 n5)))] [] outs169 mouts169 fun y6 m7 =>
    some (.s (.one (.v (.int .i64 y6.1))), []) := by kernel_rfl

/-! armplan/armplanref1.Sqrt -/
theorem fn140 (n : Nat) (a1 : Int) (a2 : Int) : (lvl Try.prog HH (n + 1)).2 140 [.s (.agg true [.v (.int .i64 a1), .v (.int .i64 a2)])] [] =
    callT (lvl Try.prog HH (n + 0)).2 103 [.s (.agg true [.v (.int .i64 a1), .v (.int .i64 a2)])] [] outs103 mouts103 fun y3 m4 =>
    bif !y3.1 then (
      some (.s (.agg true [.v (.int .i64 0), .v (.int .i64 0)]), []))
    else
    callT (lvl Try.prog HH (n + 0)).2 171 [.s (.one (.v (.int .i64 a1)))] [] outs171 mouts171 fun y5 m6 =>
    callT (lvl Try.prog HH (n + 0)).2 172 [.s (.one (.v (.int .i64 a2)))] [] outs172 mouts172 fun y7 m8 =>
    some (.s (.agg true [.v (.int .i64 y5.1), .v (.int .i64 y7.1)]), []) := by kernel_rfl

end Go.Proofs.Ytfpdjpleplhcgaa.Am
