/- PRINTED by amprint.py: what the abstract machine answers, function by function. -/
import Derived.Test.YtfpdjpleplhcgaaH
import Derived.KernelRfl
set_option linter.unusedVariables false
set_option maxRecDepth 100000
namespace Go.Proofs.Ytfpdjpleplhcgaa.Am
open Go Go.Proofs

/-! armplan/fixed.ShiftDown -/
theorem fn167 (n : Nat) (a1 : Int) (k2 : Int) : (lvl Try.prog HH (n + 1)).2 167 [.s (.one (.v (.int .i64 a1))), .s (.one (.v (.int .i64 k2)))] [] =
    bif decide (k2 < 0) then (
      some (.s (.one (.v (.int .i64 a1))), []))
    else
    bif decide (k2 < 0) then (
      none)
    else
    letIn (Int.fdiv a1 (2 ^ min k2.toNat 64) : Int) fun n3 =>
    some (.s (.one (.v (.int .i64 n3))), []) := by kernel_rfl

/-! armplan/fixed.ShiftUp -/
theorem fn168 (n : Nat) (a1 : Int) (k2 : Int) : (lvl Try.prog HH (n + 1)).2 168 [.s (.one (.v (.int .i64 a1))), .s (.one (.v (.int .i64 k2)))] [] =
    callT (lvl Try.prog HH (n + 0)).2 167 [.s (.one (.v (.int .i64 a1))), .s (.one (.v (.int .i64 k2)))] [] outs167 mouts167 fun y3 m4 =>
    bif decide (k2 ≥ 0) then (
      bif decide (k2 < 0) then (
        none)
      else
      letIn (IntKind.wrap .i64 (y3.1 * (2 ^ min k2.toNat 64)) : Int) fun n5 =>
      bif n5 != a1 then (
        letIn (IntKind.wrap .i64 (y3.1 + 1) : Int) fun n6 =>
        some (.s (.one (.v (.int .i64 n6))), []))
      else
      some (.s (.one (.v (.int .i64 y3.1))), []))
    else
    some (.s (.one (.v (.int .i64 y3.1))), []) := by kernel_rfl

/-! armplan/fixed.Clamp -/
theorem fn129 (n : Nat) (a1 : Int) : (lvl Try.prog HH (n + 1)).2 129 [.s (.one (.v (.int .i64 a1)))] [] =
    letIn (if (-2147483648) > a1 then (-2147483648) else a1 : Int) fun n2 =>
    letIn (if 2147483648 < n2 then 2147483648 else n2 : Int) fun n3 =>
    some (.s (.one (.v (.int .i64 n3))), []) := by kernel_rfl

/-! armplan/interval.limit -/
theorem fn107 (n : Nat) (lo1 : Int) (hi2 : Int) : (lvl Try.prog HH (n + 1)).2 107 [.s (.one (.v (.int .i64 lo1))), .s (.one (.v (.int .i64 hi2)))] [] =
    callT (lvl Try.prog HH (n + 0)).2 129 [.s (.one (.v (.int .i64 lo1)))] [] outs129 mouts129 fun y3 m4 =>
    callT (lvl Try.prog HH (n + 0)).2 129 [.s (.one (.v (.int .i64 hi2)))] [] outs129 mouts129 fun y5 m6 =>
    some (.s (.agg true [.v (.int .i64 y3.1), .v (.int .i64 y5.1)]), []) := by kernel_rfl

/-! armplan/interval.outward -/
theorem fn115 (n : Nat) (lo1 : Int) (hi2 : Int) : (lvl Try.prog HH (n + 1)).2 115 [.s (.one (.v (.int .i64 lo1))), .s (.one (.v (.int .i64 hi2)))] [] =
    callT (lvl Try.prog HH (n + 0)).2 167 [.s (.one (.v (.int .i64 lo1))), .s (.one (.v (.int .i64 16)))] [] outs167 mouts167 fun y3 m4 =>
    callT (lvl Try.prog HH (n + 0)).2 168 [.s (.one (.v (.int .i64 hi2))), .s (.one (.v (.int .i64 16)))] [] outs168 mouts168 fun y5 m6 =>
    callT (lvl Try.prog HH (n + 0)).2 107 [.s (.one (.v (.int .i64 y3.1))), .s (.one (.v (.int .i64 y5.1)))] [] outs107 mouts107 fun y7 m8 =>
    some (.s (.agg true [.v (.int .i64 y7.1.1), .v (.int .i64 y7.1.2.1)]), []) := by kernel_rfl

/-! armplan/interval.Mul -/
theorem fn69 (n : Nat) (a1 : Int) (a2 : Int) (b3 : Int) (b4 : Int) : (lvl Try.prog HH (n + 6)).2 69 [.s (.agg true [.v (.int .i64 a1), .v (.int .i64 a2)]), .s (.agg true [.v (.int .i64 b3), .v (.int .i64 b4)])] [] =
    callT (lvl Try.prog HH (n + 5)).2 108 [.s (.agg true [.v (.int .i64 a1), .v (.int .i64 a2)]), .s (.agg true [.v (.int .i64 b3), .v (.int .i64 b4)])] [] outs108 mouts108 fun y5 m6 =>
    bif !y5.1 then (
      some (.s (.agg true [.v (.int .i64 0), .v (.int .i64 0)]), []))
    else
    letIn (IntKind.wrap .i64 (a1 * b3) : Int) fun n7 =>
    letIn (IntKind.wrap .i64 (a1 * b4) : Int) fun n8 =>
    letIn (IntKind.wrap .i64 (a2 * b3) : Int) fun n9 =>
    letIn (IntKind.wrap .i64 (a2 * b4) : Int) fun n10 =>
    letIn (if n7 < n7 then n7 else n7 : Int) fun n11 =>
    letIn (if n7 > n7 then n7 else n7 : Int) fun n12 =>
    letIn (if n8 < n11 then n8 else n11 : Int) fun n13 =>
    letIn (if n8 > n12 then n8 else n12 : Int) fun n14 =>
    letIn (if n9 < n13 then n9 else n13 : Int) fun n15 =>
    letIn (if n9 > n14 then n9 else n14 : Int) fun n16 =>
    letIn (if n10 < n15 then n10 else n15 : Int) fun n17 =>
    letIn (if n10 > n16 then n10 else n16 : Int) fun n18 =>
    callT (lvl Try.prog HH (n + 5)).2 115 [.s (.one (.v (.int .i64 n17))), .s (.one (.v (.int .i64 n18)))] [] outs115 mouts115 fun y19 m20 =>
    some (.s (.agg true [.v (.int .i64 y19.1.1), .v (.int .i64 y19.1.2.1)]), []) := by kernel_rfl

/-! armplan/interval.Of -/
theorem fn46 (n : Nat) (x1 : Int) : (lvl Try.prog HH (n + 1)).2 46 [.s (.one (.v (.int .i64 x1)))] [] =
    callT (lvl Try.prog HH (n + 0)).2 107 [.s (.one (.v (.int .i64 x1))), .s (.one (.v (.int .i64 x1)))] [] outs107 mouts107 fun y2 m3 =>
    some (.s (.agg true [.v (.int .i64 y2.1.1), .v (.int .i64 y2.1.2.1)]), []) := by kernel_rfl

/-! armplan/interval.Add -/
theorem fn67 (n : Nat) (a1 : Int) (a2 : Int) (b3 : Int) (b4 : Int) : (lvl Try.prog HH (n + 1)).2 67 [.s (.agg true [.v (.int .i64 a1), .v (.int .i64 a2)]), .s (.agg true [.v (.int .i64 b3), .v (.int .i64 b4)])] [] =
    callT (lvl Try.prog HH (n + 0)).2 108 [.s (.agg true [.v (.int .i64 a1), .v (.int .i64 a2)]), .s (.agg true [.v (.int .i64 b3), .v (.int .i64 b4)])] [] outs108 mouts108 fun y5 m6 =>
    bif !y5.1 then (
      some (.s (.agg true [.v (.int .i64 0), .v (.int .i64 0)]), []))
    else
    letIn (IntKind.wrap .i64 (a1 + b3) : Int) fun n7 =>
    letIn (IntKind.wrap .i64 (a2 + b4) : Int) fun n8 =>
    callT (lvl Try.prog HH (n + 0)).2 107 [.s (.one (.v (.int .i64 n7))), .s (.one (.v (.int .i64 n8)))] [] outs107 mouts107 fun y9 m10 =>
    some (.s (.agg true [.v (.int .i64 y9.1.1), .v (.int .i64 y9.1.2.1)]), []) := by kernel_rfl

/-! armplan/armplanlaw2.awake -/
theorem fn44 (n : Nat)  : (lvl Try.prog HH (n + 1)).2 44 [] [] =
    callT (lvl Try.prog HH (n + 0)).2 69 [.s (.agg true [.v (.int .i64 (-3)), .v (.int .i64 5)]), .s (.agg true [.v (.int .i64 65536), .v (.int .i64 131072)])] [] outs69 mouts69 fun y1 m2 =>
    letIn ((y1.1.1 == (-6)) && ((y1.1.2.1 == 10) && true) : Bool) fun b3 =>
    bif b3 then (
      callT (lvl Try.prog HH (n + 0)).2 46 [.s (.one (.v (.int .i64 2)))] [] outs46 mouts46 fun y4 m5 =>
      callT (lvl Try.prog HH (n + 0)).2 46 [.s (.one (.v (.int .i64 3)))] [] outs46 mouts46 fun y6 m7 =>
      callT (lvl Try.prog HH (n + 0)).2 67 [.s (.agg true [.v (.int .i64 y4.1.1), .v (.int .i64 y4.1.2.1)]), .s (.agg true [.v (.int .i64 y6.1.1), .v (.int .i64 y6.1.2.1)])] [] outs67 mouts67 fun y8 m9 =>
      callT (lvl Try.prog HH (n + 0)).2 46 [.s (.one (.v (.int .i64 5)))] [] outs46 mouts46 fun y10 m11 =>
      letIn ((y8.1.1 == y10.1.1) && ((y8.1.2.1 == y10.1.2.1) && true) : Bool) fun b12 =>
      some (.s (.one (.v (.bool b12))), []))
    else
    some (.s (.one (.v (.bool false))), []) := by kernel_rfl

end Go.Proofs.Ytfpdjpleplhcgaa.Am
