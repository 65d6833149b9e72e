/- PRINTED by amprint.py: what the abstract machine answers, function by function. -/
import Derived.Test.YtfpdjpleplhcgaaH
import Derived.KernelRfl
set_option linter.unusedVariables false
set_option maxRecDepth 100000
namespace Go.Proofs.Ytfpdjpleplhcgaa.Am
open Go Go.Proofs

/-! armplan/armplanmake.Round -/
theorem fn41 (n : Nat) (n1 : Int) (k2 : Int) : (lvl Try.prog HH (n + 1)).2 41 [.s (.one (.v (.int .i64 n1))), .s (.one (.v (.int .i64 k2)))] [] =
    bif k2 == 0 then (
      none)
    else
    letIn (Int.tmod n1 k2 : Int) fun n3 =>
    bif decide (n3 < 0) then (
      letIn (IntKind.wrap .i64 (n3 + k2) : Int) fun n4 =>
      some (.s (.one (.v (.int .i64 n4))), []))
    else
    some (.s (.one (.v (.int .i64 n3))), []) := by kernel_rfl

/-! armplan/armplanref1.Clamp -/
theorem fn102 (n : Nat) (a1 : Int) : (lvl Try.prog HH (n + 1)).2 102 [.s (.one (.v (.int .i64 a1)))] [] =
    letIn (if 2147483648 < a1 then 2147483648 else a1 : Int) fun n2 =>
    letIn (if n2 > (-2147483648) then n2 else (-2147483648) : Int) fun n3 =>
    some (.s (.one (.v (.int .i64 n3))), []) := by kernel_rfl

/-! armplan/armplanmake.Interval -/
theorem fn43 (n : Nat) (a1 : Int) (b2 : Int) : (lvl Try.prog HH (n + 1)).2 43 [.s (.one (.v (.int .i64 a1))), .s (.one (.v (.int .i64 b2)))] [] =
    letIn (Int.fdiv a1 8 : Int) fun n3 =>
    callT (lvl Try.prog HH (n + 0)).2 41 [.s (.one (.v (.int .i64 n3))), .s (.one (.v (.int .i64 27)))] [] outs41 mouts41 fun y4 m5 =>
    letIn (IntKind.wrap .i64 (4 + y4.1) : Int) fun n6 =>
    letIn (IntKind.wrap .u64 n6 : Int) fun n7 =>
    bif decide (n7 < 0) then (
      none)
    else
    letIn (IntKind.wrap .i64 (1 * (2 ^ min n7.toNat 64)) : Int) fun n8 =>
    letIn (IntKind.wrap .i64 (2 * n8) : Int) fun n9 =>
    letIn (IntKind.wrap .i64 (n9 + 1) : Int) fun n10 =>
    callT (lvl Try.prog HH (n + 0)).2 41 [.s (.one (.v (.int .i64 a1))), .s (.one (.v (.int .i64 n10)))] [] outs41 mouts41 fun y11 m12 =>
    letIn (IntKind.wrap .i64 (y11.1 - n8) : Int) fun n13 =>
    letIn (IntKind.wrap .i64 (2 * n8) : Int) fun n14 =>
    letIn (IntKind.wrap .i64 (n14 + 1) : Int) fun n15 =>
    callT (lvl Try.prog HH (n + 0)).2 41 [.s (.one (.v (.int .i64 b2))), .s (.one (.v (.int .i64 n15)))] [] outs41 mouts41 fun y16 m17 =>
    letIn (IntKind.wrap .i64 (y16.1 - n8) : Int) fun n18 =>
    letIn (IntKind.wrap .i64 ((BitVec.ofInt 64 b2 &&& BitVec.ofInt 64 1).toNat : Nat) : Int) fun n19 =>
    bif n19 == 0 then (
      letIn (Int.fdiv b2 2 : Int) fun n20 =>
      letIn (IntKind.wrap .i64 (Int.tdiv n8 8) : Int) fun n21 =>
      letIn (IntKind.wrap .i64 (1 + n21) : Int) fun n22 =>
      callT (lvl Try.prog HH (n + 0)).2 41 [.s (.one (.v (.int .i64 n20))), .s (.one (.v (.int .i64 n22)))] [] outs41 mouts41 fun y23 m24 =>
      letIn (IntKind.wrap .i64 (n13 + y23.1) : Int) fun n25 =>
      callT (lvl Try.prog HH (n + 0)).2 102 [.s (.one (.v (.int .i64 n13)))] [] outs102 mouts102 fun y26 m27 =>
      callT (lvl Try.prog HH (n + 0)).2 102 [.s (.one (.v (.int .i64 n25)))] [] outs102 mouts102 fun y28 m29 =>
      letIn (if y28.1 < y26.1 then y28.1 else y26.1 : Int) fun n30 =>
      callT (lvl Try.prog HH (n + 0)).2 102 [.s (.one (.v (.int .i64 n13)))] [] outs102 mouts102 fun y31 m32 =>
      callT (lvl Try.prog HH (n + 0)).2 102 [.s (.one (.v (.int .i64 n25)))] [] outs102 mouts102 fun y33 m34 =>
      letIn (if y33.1 > y31.1 then y33.1 else y31.1 : Int) fun n35 =>
      some (.s (.agg true [.v (.int .i64 n30), .v (.int .i64 n35)]), []))
    else
    callT (lvl Try.prog HH (n + 0)).2 102 [.s (.one (.v (.int .i64 n13)))] [] outs102 mouts102 fun y36 m37 =>
    callT (lvl Try.prog HH (n + 0)).2 102 [.s (.one (.v (.int .i64 n18)))] [] outs102 mouts102 fun y38 m39 =>
    letIn (if y38.1 < y36.1 then y38.1 else y36.1 : Int) fun n40 =>
    callT (lvl Try.prog HH (n + 0)).2 102 [.s (.one (.v (.int .i64 n13)))] [] outs102 mouts102 fun y41 m42 =>
    callT (lvl Try.prog HH (n + 0)).2 102 [.s (.one (.v (.int .i64 n18)))] [] outs102 mouts102 fun y43 m44 =>
    letIn (if y43.1 > y41.1 then y43.1 else y41.1 : Int) fun n45 =>
    some (.s (.agg true [.v (.int .i64 n40), .v (.int .i64 n45)]), []) := by kernel_rfl

/-! armplan/interval.Valid -/
theorem fn48 (n : Nat) (a1 : Int) (a2 : Int) : (lvl Try.prog HH (n + 1)).2 48 [.s (.agg true [.v (.int .i64 a1), .v (.int .i64 a2)])] [] =
    bif decide (a1 ≥ (-2147483648)) then (
      bif decide (a1 ≤ a2) then (
        some (.s (.one (.v (.bool (decide (a2 ≤ 2147483648))))), []))
      else
      some (.s (.one (.v (.bool false))), []))
    else
    some (.s (.one (.v (.bool false))), []) := by kernel_rfl

/-! armplan/interval.both -/
theorem fn108 (n : Nat) (a1 : Int) (a2 : Int) (b3 : Int) (b4 : Int) : (lvl Try.prog HH (n + 1)).2 108 [.s (.agg true [.v (.int .i64 a1), .v (.int .i64 a2)]), .s (.agg true [.v (.int .i64 b3), .v (.int .i64 b4)])] [] =
    callT (lvl Try.prog HH (n + 0)).2 48 [.s (.agg true [.v (.int .i64 a1), .v (.int .i64 a2)])] [] outs48 mouts48 fun y5 m6 =>
    bif y5.1 then (
      callT (lvl Try.prog HH (n + 0)).2 48 [.s (.agg true [.v (.int .i64 b3), .v (.int .i64 b4)])] [] outs48 mouts48 fun y7 m8 =>
      some (.s (.one (.v (.bool y7.1))), []))
    else
    some (.s (.one (.v (.bool false))), []) := by kernel_rfl

/-! armplan/interval.Meet -/
theorem fn49 (n : Nat) (a1 : Int) (a2 : Int) (b3 : Int) (b4 : Int) : (lvl Try.prog HH (n + 1)).2 49 [.s (.agg true [.v (.int .i64 a1), .v (.int .i64 a2)]), .s (.agg true [.v (.int .i64 b3), .v (.int .i64 b4)])] [] =
    letIn (if b3 > a1 then b3 else a1 : Int) fun n5 =>
    letIn (if b4 < a2 then b4 else a2 : Int) fun n6 =>
    callT (lvl Try.prog HH (n + 0)).2 108 [.s (.agg true [.v (.int .i64 a1), .v (.int .i64 a2)]), .s (.agg true [.v (.int .i64 b3), .v (.int .i64 b4)])] [] outs108 mouts108 fun y7 m8 =>
    bif !y7.1 then (
      some (.tup [.agg true [.v (.int .i64 0), .v (.int .i64 0)], .one (.v (.bool false))], []))
    else
    bif decide (n5 > n6) then (
      some (.tup [.agg true [.v (.int .i64 0), .v (.int .i64 0)], .one (.v (.bool false))], []))
    else
    some (.tup [.agg true [.v (.int .i64 n5), .v (.int .i64 n6)], .one (.v (.bool true))], []) := by kernel_rfl

/-! armplan/interval.Has -/
theorem fn50 (n : Nat) (a1 : Int) (a2 : Int) (x3 : Int) : (lvl Try.prog HH (n + 1)).2 50 [.s (.agg true [.v (.int .i64 a1), .v (.int .i64 a2)]), .s (.one (.v (.int .i64 x3)))] [] =
    callT (lvl Try.prog HH (n + 0)).2 48 [.s (.agg true [.v (.int .i64 a1), .v (.int .i64 a2)])] [] outs48 mouts48 fun y4 m5 =>
    bif y4.1 then (
      bif decide (x3 ≥ a1) then (
        some (.s (.one (.v (.bool (decide (x3 ≤ a2))))), []))
      else
      some (.s (.one (.v (.bool false))), []))
    else
    some (.s (.one (.v (.bool false))), []) := by kernel_rfl

/-! armplan/fixed.ShiftDown -/
theorem fn167 (n : Nat) (a1 : Int) (k2 : Int) : (lvl Try.prog HH (n + 1)).2 167 [.s (.one (.v (.int .i64 a1))), .s (.one (.v (.int .i64 k2)))] [] =
    bif decide (k2 < 0) then (
      some (.s (.one (.v (.int .i64 a1))), []))
    else
    bif decide (k2 < 0) then (
      none)
    else
    letIn (Int.fdiv a1 (2 ^ min k2.toNat 64) : Int) fun n3 =>
    some (.s (.one (.v (.int .i64 n3))), []) := by kernel_rfl

/-! armplan/fixed.ShiftUp -/
theorem fn168 (n : Nat) (a1 : Int) (k2 : Int) : (lvl Try.prog HH (n + 1)).2 168 [.s (.one (.v (.int .i64 a1))), .s (.one (.v (.int .i64 k2)))] [] =
    callT (lvl Try.prog HH (n + 0)).2 167 [.s (.one (.v (.int .i64 a1))), .s (.one (.v (.int .i64 k2)))] [] outs167 mouts167 fun y3 m4 =>
    bif decide (k2 ≥ 0) then (
      bif decide (k2 < 0) then (
        none)
      else
      letIn (IntKind.wrap .i64 (y3.1 * (2 ^ min k2.toNat 64)) : Int) fun n5 =>
      bif n5 != a1 then (
        letIn (IntKind.wrap .i64 (y3.1 + 1) : Int) fun n6 =>
        some (.s (.one (.v (.int .i64 n6))), []))
      else
      some (.s (.one (.v (.int .i64 y3.1))), []))
    else
    some (.s (.one (.v (.int .i64 y3.1))), []) := by kernel_rfl

/-! armplan/fixed.Clamp -/
theorem fn129 (n : Nat) (a1 : Int) : (lvl Try.prog HH (n + 1)).2 129 [.s (.one (.v (.int .i64 a1)))] [] =
    letIn (if (-2147483648) > a1 then (-2147483648) else a1 : Int) fun n2 =>
    letIn (if 2147483648 < n2 then 2147483648 else n2 : Int) fun n3 =>
    some (.s (.one (.v (.int .i64 n3))), []) := by kernel_rfl

/-! armplan/interval.limit -/
theorem fn107 (n : Nat) (lo1 : Int) (hi2 : Int) : (lvl Try.prog HH (n + 1)).2 107 [.s (.one (.v (.int .i64 lo1))), .s (.one (.v (.int .i64 hi2)))] [] =
    callT (lvl Try.prog HH (n + 0)).2 129 [.s (.one (.v (.int .i64 lo1)))] [] outs129 mouts129 fun y3 m4 =>
    callT (lvl Try.prog HH (n + 0)).2 129 [.s (.one (.v (.int .i64 hi2)))] [] outs129 mouts129 fun y5 m6 =>
    some (.s (.agg true [.v (.int .i64 y3.1), .v (.int .i64 y5.1)]), []) := by kernel_rfl

/-! armplan/interval.outward -/
theorem fn115 (n : Nat) (lo1 : Int) (hi2 : Int) : (lvl Try.prog HH (n + 1)).2 115 [.s (.one (.v (.int .i64 lo1))), .s (.one (.v (.int .i64 hi2)))] [] =
    callT (lvl Try.prog HH (n + 0)).2 167 [.s (.one (.v (.int .i64 lo1))), .s (.one (.v (.int .i64 16)))] [] outs167 mouts167 fun y3 m4 =>
    callT (lvl Try.prog HH (n + 0)).2 168 [.s (.one (.v (.int .i64 hi2))), .s (.one (.v (.int .i64 16)))] [] outs168 mouts168 fun y5 m6 =>
    callT (lvl Try.prog HH (n + 0)).2 107 [.s (.one (.v (.int .i64 y3.1))), .s (.one (.v (.int .i64 y5.1)))] [] outs107 mouts107 fun y7 m8 =>
    some (.s (.agg true [.v (.int .i64 y7.1.1), .v (.int .i64 y7.1.2.1)]), []) := by kernel_rfl

end Go.Proofs.Ytfpdjpleplhcgaa.Am
