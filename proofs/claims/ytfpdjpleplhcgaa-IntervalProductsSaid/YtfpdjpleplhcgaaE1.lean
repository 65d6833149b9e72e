/- PRINTED by amprint.py: what the abstract machine answers, function by function. -/
import Derived.Test.YtfpdjpleplhcgaaH
import Derived.KernelRfl
set_option linter.unusedVariables false
set_option maxRecDepth 100000
namespace Go.Proofs.Ytfpdjpleplhcgaa.Am
open Go Go.Proofs

/-! armplan/armplanref1.Ceil -/
theorem fn64 (n : Nat) (a1 : Int) (b2 : Int) : (lvl Try.prog HH (n + 1)).2 64 [.s (.one (.v (.int .i64 a1))), .s (.one (.v (.int .i64 b2)))] [] =
    bif b2 == 0 then (
      none)
    else
    letIn (IntKind.wrap .i64 (Int.tdiv a1 b2) : Int) fun n3 =>
    bif b2 == 0 then (
      none)
    else
    letIn (Int.tmod a1 b2 : Int) fun n4 =>
    bif decide (n4 > 0) then (
      letIn (IntKind.wrap .i64 (n3 + 1) : Int) fun n5 =>
      some (.s (.one (.v (.int .i64 n5))), []))
    else
    some (.s (.one (.v (.int .i64 n3))), []) := by kernel_rfl

/-! armplan/armplanref1.Clamp -/
theorem fn102 (n : Nat) (a1 : Int) : (lvl Try.prog HH (n + 1)).2 102 [.s (.one (.v (.int .i64 a1)))] [] =
    letIn (if 2147483648 < a1 then 2147483648 else a1 : Int) fun n2 =>
    letIn (if n2 > (-2147483648) then n2 else (-2147483648) : Int) fun n3 =>
    some (.s (.one (.v (.int .i64 n3))), []) := by kernel_rfl

/-! armplan/armplanref1.limited -/
theorem fn162 (n : Nat) (lo1 : Int) (hi2 : Int) : (lvl Try.prog HH (n + 1)).2 162 [.s (.one (.v (.int .i64 lo1))), .s (.one (.v (.int .i64 hi2)))] [] =
    callT (lvl Try.prog HH (n + 0)).2 102 [.s (.one (.v (.int .i64 lo1)))] [] outs102 mouts102 fun y3 m4 =>
    callT (lvl Try.prog HH (n + 0)).2 102 [.s (.one (.v (.int .i64 hi2)))] [] outs102 mouts102 fun y5 m6 =>
    some (.s (.agg true [.v (.int .i64 y3.1), .v (.int .i64 y5.1)]), []) := by kernel_rfl

/-! armplan/armplanref1.Mul -/
theorem fn137 (n : Nat) (a1 : Int) (a2 : Int) (b3 : Int) (b4 : Int) : (lvl Try.prog HH (n + 1)).2 137 [.s (.agg true [.v (.int .i64 a1), .v (.int .i64 a2)]), .s (.agg true [.v (.int .i64 b3), .v (.int .i64 b4)])] [] =
    callT (lvl Try.prog HH (n + 0)).2 103 [.s (.agg true [.v (.int .i64 a1), .v (.int .i64 a2)])] [] outs103 mouts103 fun y5 m6 =>
    bif !y5.1 then (
      some (.s (.agg true [.v (.int .i64 0), .v (.int .i64 0)]), []))
    else
    callT (lvl Try.prog HH (n + 0)).2 103 [.s (.agg true [.v (.int .i64 b3), .v (.int .i64 b4)])] [] outs103 mouts103 fun y7 m8 =>
    bif !y7.1 then (
      some (.s (.agg true [.v (.int .i64 0), .v (.int .i64 0)]), []))
    else
    letIn (IntKind.wrap .i64 (a1 * b3) : Int) fun n9 =>
    letIn (IntKind.wrap .i64 (a1 * b4) : Int) fun n10 =>
    letIn (IntKind.wrap .i64 (a2 * b3) : Int) fun n11 =>
    letIn (IntKind.wrap .i64 (a2 * b4) : Int) fun n12 =>
    letIn (if n10 < n9 then n10 else n9 : Int) fun n13 =>
    letIn (if n11 < n13 then n11 else n13 : Int) fun n14 =>
    letIn (if n12 < n14 then n12 else n14 : Int) fun n15 =>
    callT (lvl Try.prog HH (n + 0)).2 116 [.s (.one (.v (.int .i64 n15))), .s (.one (.v (.int .i64 65536)))] [] outs116 mouts116 fun y16 m17 =>
    letIn (if n10 > n9 then n10 else n9 : Int) fun n18 =>
    letIn (if n11 > n18 then n11 else n18 : Int) fun n19 =>
    letIn (if n12 > n19 then n12 else n19 : Int) fun n20 =>
    callT (lvl Try.prog HH (n + 0)).2 64 [.s (.one (.v (.int .i64 n20))), .s (.one (.v (.int .i64 65536)))] [] outs64 mouts64 fun y21 m22 =>
    callT (lvl Try.prog HH (n + 0)).2 162 [.s (.one (.v (.int .i64 y16.1))), .s (.one (.v (.int .i64 y21.1)))] [] outs162 mouts162 fun y23 m24 =>
    some (.s (.agg true [.v (.int .i64 y23.1.1), .v (.int .i64 y23.1.2.1)]), []) := by kernel_rfl

/-! armplan/interval.Scale -/
theorem fn79 (n : Nat) (a1 : Int) (a2 : Int) (k3 : Int) : (lvl Try.prog HH (n + 1)).2 79 [.s (.agg true [.v (.int .i64 a1), .v (.int .i64 a2)]), .s (.one (.v (.int .i64 k3)))] [] =
    callT (lvl Try.prog HH (n + 0)).2 48 [.s (.agg true [.v (.int .i64 a1), .v (.int .i64 a2)])] [] outs48 mouts48 fun y4 m5 =>
    bif !y4.1 then (
      some (.s (.agg true [.v (.int .i64 0), .v (.int .i64 0)]), []))
    else
    callT (lvl Try.prog HH (n + 0)).2 129 [.s (.one (.v (.int .i64 k3)))] [] outs129 mouts129 fun y6 m7 =>
    letIn (IntKind.wrap .i64 (a1 * y6.1) : Int) fun n8 =>
    callT (lvl Try.prog HH (n + 0)).2 129 [.s (.one (.v (.int .i64 k3)))] [] outs129 mouts129 fun y9 m10 =>
    letIn (IntKind.wrap .i64 (a2 * y9.1) : Int) fun n11 =>
    letIn (if n11 < n8 then n11 else n8 : Int) fun n12 =>
    letIn (if n11 > n8 then n11 else n8 : Int) fun n13 =>
    callT (lvl Try.prog HH (n + 0)).2 107 [.s (.one (.v (.int .i64 n12))), .s (.one (.v (.int .i64 n13)))] [] outs107 mouts107 fun y14 m15 =>
    some (.s (.agg true [.v (.int .i64 y14.1.1), .v (.int .i64 y14.1.2.1)]), []) := by kernel_rfl

/-! armplan/armplanref1.Scale -/
theorem fn138 (n : Nat) (a1 : Int) (a2 : Int) (k3 : Int) : (lvl Try.prog HH (n + 1)).2 138 [.s (.agg true [.v (.int .i64 a1), .v (.int .i64 a2)]), .s (.one (.v (.int .i64 k3)))] [] =
    callT (lvl Try.prog HH (n + 0)).2 103 [.s (.agg true [.v (.int .i64 a1), .v (.int .i64 a2)])] [] outs103 mouts103 fun y4 m5 =>
    bif !y4.1 then (
      some (.s (.agg true [.v (.int .i64 0), .v (.int .i64 0)]), []))
    else
    callT (lvl Try.prog HH (n + 0)).2 102 [.s (.one (.v (.int .i64 k3)))] [] outs102 mouts102 fun y6 m7 =>
    letIn (IntKind.wrap .i64 (a1 * y6.1) : Int) fun n8 =>
    callT (lvl Try.prog HH (n + 0)).2 102 [.s (.one (.v (.int .i64 k3)))] [] outs102 mouts102 fun y9 m10 =>
    letIn (IntKind.wrap .i64 (a2 * y9.1) : Int) fun n11 =>
    letIn (if n11 < n8 then n11 else n8 : Int) fun n12 =>
    letIn (if n11 > n8 then n11 else n8 : Int) fun n13 =>
    callT (lvl Try.prog HH (n + 0)).2 162 [.s (.one (.v (.int .i64 n12))), .s (.one (.v (.int .i64 n13)))] [] outs162 mouts162 fun y14 m15 =>
    some (.s (.agg true [.v (.int .i64 y14.1.1), .v (.int .i64 y14.1.2.1)]), []) := by kernel_rfl

/-! armplan/interval.Square -/
theorem fn72 (n : Nat) (a1 : Int) (a2 : Int) : (lvl Try.prog HH (n + 1)).2 72 [.s (.agg true [.v (.int .i64 a1), .v (.int .i64 a2)])] [] =
    callT (lvl Try.prog HH (n + 0)).2 48 [.s (.agg true [.v (.int .i64 a1), .v (.int .i64 a2)])] [] outs48 mouts48 fun y3 m4 =>
    bif !y3.1 then (
      some (.s (.agg true [.v (.int .i64 0), .v (.int .i64 0)]), []))
    else
    letIn (IntKind.wrap .i64 (a1 * a1) : Int) fun n5 =>
    letIn (IntKind.wrap .i64 (a2 * a2) : Int) fun n6 =>
    bif decide (a1 ≤ 0) then (
      bif decide (a2 ≥ 0) then (
        letIn (if n6 > n5 then n6 else n5 : Int) fun n7 =>
        callT (lvl Try.prog HH (n + 0)).2 115 [.s (.one (.v (.int .i64 0))), .s (.one (.v (.int .i64 n7)))] [] outs115 mouts115 fun y8 m9 =>
        some (.s (.agg true [.v (.int .i64 y8.1.1), .v (.int .i64 y8.1.2.1)]), []))
      else
      letIn (if n6 < n5 then n6 else n5 : Int) fun n10 =>
      letIn (if n6 > n5 then n6 else n5 : Int) fun n11 =>
      callT (lvl Try.prog HH (n + 0)).2 115 [.s (.one (.v (.int .i64 n10))), .s (.one (.v (.int .i64 n11)))] [] outs115 mouts115 fun y12 m13 =>
      some (.s (.agg true [.v (.int .i64 y12.1.1), .v (.int .i64 y12.1.2.1)]), []))
    else
    letIn (if n6 < n5 then n6 else n5 : Int) fun n14 =>
    letIn (if n6 > n5 then n6 else n5 : Int) fun n15 =>
    callT (lvl Try.prog HH (n + 0)).2 115 [.s (.one (.v (.int .i64 n14))), .s (.one (.v (.int .i64 n15)))] [] outs115 mouts115 fun y16 m17 =>
    some (.s (.agg true [.v (.int .i64 y16.1.1), .v (.int .i64 y16.1.2.1)]), []) := by kernel_rfl

/-! armplan/armplanref1.Square -/
theorem fn139 (n : Nat) (a1 : Int) (a2 : Int) : (lvl Try.prog HH (n + 1)).2 139 [.s (.agg true [.v (.int .i64 a1), .v (.int .i64 a2)])] [] =
    callT (lvl Try.prog HH (n + 0)).2 103 [.s (.agg true [.v (.int .i64 a1), .v (.int .i64 a2)])] [] outs103 mouts103 fun y3 m4 =>
    bif !y3.1 then (
      some (.s (.agg true [.v (.int .i64 0), .v (.int .i64 0)]), []))
    else
    letIn (IntKind.wrap .i64 (a1 * a1) : Int) fun n5 =>
    letIn (IntKind.wrap .i64 (a2 * a2) : Int) fun n6 =>
    letIn (if n6 < n5 then n6 else n5 : Int) fun n7 =>
    letIn (IntKind.wrap .i64 (a1 * a1) : Int) fun n8 =>
    letIn (IntKind.wrap .i64 (a2 * a2) : Int) fun n9 =>
    letIn (if n9 > n8 then n9 else n8 : Int) fun n10 =>
    bif decide (a1 ≤ 0) then (
      bif decide (a2 ≥ 0) then (
        callT (lvl Try.prog HH (n + 0)).2 116 [.s (.one (.v (.int .i64 0))), .s (.one (.v (.int .i64 65536)))] [] outs116 mouts116 fun y11 m12 =>
        callT (lvl Try.prog HH (n + 0)).2 64 [.s (.one (.v (.int .i64 n10))), .s (.one (.v (.int .i64 65536)))] [] outs64 mouts64 fun y13 m14 =>
        callT (lvl Try.prog HH (n + 0)).2 162 [.s (.one (.v (.int .i64 y11.1))), .s (.one (.v (.int .i64 y13.1)))] [] outs162 mouts162 fun y15 m16 =>
        some (.s (.agg true [.v (.int .i64 y15.1.1), .v (.int .i64 y15.1.2.1)]), []))
      else
      callT (lvl Try.prog HH (n + 0)).2 116 [.s (.one (.v (.int .i64 n7))), .s (.one (.v (.int .i64 65536)))] [] outs116 mouts116 fun y17 m18 =>
      callT (lvl Try.prog HH (n + 0)).2 64 [.s (.one (.v (.int .i64 n10))), .s (.one (.v (.int .i64 65536)))] [] outs64 mouts64 fun y19 m20 =>
      callT (lvl Try.prog HH (n + 0)).2 162 [.s (.one (.v (.int .i64 y17.1))), .s (.one (.v (.int .i64 y19.1)))] [] outs162 mouts162 fun y21 m22 =>
      some (.s (.agg true [.v (.int .i64 y21.1.1), .v (.int .i64 y21.1.2.1)]), []))
    else
    callT (lvl Try.prog HH (n + 0)).2 116 [.s (.one (.v (.int .i64 n7))), .s (.one (.v (.int .i64 65536)))] [] outs116 mouts116 fun y23 m24 =>
    callT (lvl Try.prog HH (n + 0)).2 64 [.s (.one (.v (.int .i64 n10))), .s (.one (.v (.int .i64 65536)))] [] outs64 mouts64 fun y25 m26 =>
    callT (lvl Try.prog HH (n + 0)).2 162 [.s (.one (.v (.int .i64 y23.1))), .s (.one (.v (.int .i64 y25.1)))] [] outs162 mouts162 fun y27 m28 =>
    some (.s (.agg true [.v (.int .i64 y27.1.1), .v (.int .i64 y27.1.2.1)]), []) := by kernel_rfl

end Go.Proofs.Ytfpdjpleplhcgaa.Am
