/- PRINTED by amprint.py: what the abstract machine answers, function by function. -/
import Derived.Test.YtfpdjpleplhcgaaH
import Derived.KernelRfl
set_option linter.unusedVariables false
set_option maxRecDepth 100000
namespace Go.Proofs.Ytfpdjpleplhcgaa.Am
open Go Go.Proofs

/-! armplan/armplanmake.Round -/
theorem fn41 (n : Nat) (n1 : Int) (k2 : Int) : (lvl Try.prog HH (n + 1)).2 41 [.s (.one (.v (.int .i64 n1))), .s (.one (.v (.int .i64 k2)))] [] =
    bif k2 == 0 then (
      none)
    else
    letIn (Int.tmod n1 k2 : Int) fun n3 =>
    bif decide (n3 < 0) then (
      letIn (IntKind.wrap .i64 (n3 + k2) : Int) fun n4 =>
      some (.s (.one (.v (.int .i64 n4))), []))
    else
    some (.s (.one (.v (.int .i64 n3))), []) := by kernel_rfl

/-! armplan/armplanref1.Clamp -/
theorem fn102 (n : Nat) (a1 : Int) : (lvl Try.prog HH (n + 1)).2 102 [.s (.one (.v (.int .i64 a1)))] [] =
    letIn (if 2147483648 < a1 then 2147483648 else a1 : Int) fun n2 =>
    letIn (if n2 > (-2147483648) then n2 else (-2147483648) : Int) fun n3 =>
    some (.s (.one (.v (.int .i64 n3))), []) := by kernel_rfl

/-! armplan/armplanmake.Interval -/
theorem fn43 (n : Nat) (a1 : Int) (b2 : Int) : (lvl Try.prog HH (n + 1)).2 43 [.s (.one (.v (.int .i64 a1))), .s (.one (.v (.int .i64 b2)))] [] =
    letIn (Int.fdiv a1 8 : Int) fun n3 =>
    callT (lvl Try.prog HH (n + 0)).2 41 [.s (.one (.v (.int .i64 n3))), .s (.one (.v (.int .i64 27)))] [] outs41 mouts41 fun y4 m5 =>
    letIn (IntKind.wrap .i64 (4 + y4.1) : Int) fun n6 =>
    letIn (IntKind.wrap .u64 n6 : Int) fun n7 =>
    bif decide (n7 < 0) then (
      none)
    else
    letIn (IntKind.wrap .i64 (1 * (2 ^ min n7.toNat 64)) : Int) fun n8 =>
    letIn (IntKind.wrap .i64 (2 * n8) : Int) fun n9 =>
    letIn (IntKind.wrap .i64 (n9 + 1) : Int) fun n10 =>
    callT (lvl Try.prog HH (n + 0)).2 41 [.s (.one (.v (.int .i64 a1))), .s (.one (.v (.int .i64 n10)))] [] outs41 mouts41 fun y11 m12 =>
    letIn (IntKind.wrap .i64 (y11.1 - n8) : Int) fun n13 =>
    letIn (IntKind.wrap .i64 (2 * n8) : Int) fun n14 =>
    letIn (IntKind.wrap .i64 (n14 + 1) : Int) fun n15 =>
    callT (lvl Try.prog HH (n + 0)).2 41 [.s (.one (.v (.int .i64 b2))), .s (.one (.v (.int .i64 n15)))] [] outs41 mouts41 fun y16 m17 =>
    letIn (IntKind.wrap .i64 (y16.1 - n8) : Int) fun n18 =>
    letIn (IntKind.wrap .i64 ((BitVec.ofInt 64 b2 &&& BitVec.ofInt 64 1).toNat : Nat) : Int) fun n19 =>
    bif n19 == 0 then (
      letIn (Int.fdiv b2 2 : Int) fun n20 =>
      letIn (IntKind.wrap .i64 (Int.tdiv n8 8) : Int) fun n21 =>
      letIn (IntKind.wrap .i64 (1 + n21) : Int) fun n22 =>
      callT (lvl Try.prog HH (n + 0)).2 41 [.s (.one (.v (.int .i64 n20))), .s (.one (.v (.int .i64 n22)))] [] outs41 mouts41 fun y23 m24 =>
      letIn (IntKind.wrap .i64 (n13 + y23.1) : Int) fun n25 =>
      callT (lvl Try.prog HH (n + 0)).2 102 [.s (.one (.v (.int .i64 n13)))] [] outs102 mouts102 fun y26 m27 =>
      callT (lvl Try.prog HH (n + 0)).2 102 [.s (.one (.v (.int .i64 n25)))] [] outs102 mouts102 fun y28 m29 =>
      letIn (if y28.1 < y26.1 then y28.1 else y26.1 : Int) fun n30 =>
      callT (lvl Try.prog HH (n + 0)).2 102 [.s (.one (.v (.int .i64 n13)))] [] outs102 mouts102 fun y31 m32 =>
      callT (lvl Try.prog HH (n + 0)).2 102 [.s (.one (.v (.int .i64 n25)))] [] outs102 mouts102 fun y33 m34 =>
      letIn (if y33.1 > y31.1 then y33.1 else y31.1 : Int) fun n35 =>
      some (.s (.agg true [.v (.int .i64 n30), .v (.int .i64 n35)]), []))
    else
    callT (lvl Try.prog HH (n + 0)).2 102 [.s (.one (.v (.int .i64 n13)))] [] outs102 mouts102 fun y36 m37 =>
    callT (lvl Try.prog HH (n + 0)).2 102 [.s (.one (.v (.int .i64 n18)))] [] outs102 mouts102 fun y38 m39 =>
    letIn (if y38.1 < y36.1 then y38.1 else y36.1 : Int) fun n40 =>
    callT (lvl Try.prog HH (n + 0)).2 102 [.s (.one (.v (.int .i64 n13)))] [] outs102 mouts102 fun y41 m42 =>
    callT (lvl Try.prog HH (n + 0)).2 102 [.s (.one (.v (.int .i64 n18)))] [] outs102 mouts102 fun y43 m44 =>
    letIn (if y43.1 > y41.1 then y43.1 else y41.1 : Int) fun n45 =>
    some (.s (.agg true [.v (.int .i64 n40), .v (.int .i64 n45)]), []) := by kernel_rfl

/-! armplan/armplanmake.Part -/
theorem fn65 (n : Nat) (a1 : Int) (a2 : Int) (m3 : Int) (n4 : Int) : (lvl Try.prog HH (n + 1)).2 65 [.s (.agg true [.v (.int .i64 a1), .v (.int .i64 a2)]), .s (.one (.v (.int .i64 m3))), .s (.one (.v (.int .i64 n4)))] [] =
    letIn (IntKind.wrap .i64 (a2 - a1) : Int) fun n5 =>
    letIn (IntKind.wrap .i64 (n5 + 1) : Int) fun n6 =>
    callT (lvl Try.prog HH (n + 0)).2 41 [.s (.one (.v (.int .i64 m3))), .s (.one (.v (.int .i64 n6)))] [] outs41 mouts41 fun y7 m8 =>
    letIn (IntKind.wrap .i64 (a1 + y7.1) : Int) fun n9 =>
    letIn (IntKind.wrap .i64 ((BitVec.ofInt 64 n4 &&& BitVec.ofInt 64 1).toNat : Nat) : Int) fun n10 =>
    bif n10 == 0 then (
      some (.s (.agg true [.v (.int .i64 n9), .v (.int .i64 n9)]), []))
    else
    letIn (Int.fdiv n4 2 : Int) fun n11 =>
    callT (lvl Try.prog HH (n + 0)).2 41 [.s (.one (.v (.int .i64 n11))), .s (.one (.v (.int .i64 n6)))] [] outs41 mouts41 fun y12 m13 =>
    letIn (IntKind.wrap .i64 (a1 + y12.1) : Int) fun n14 =>
    letIn (if n14 < n9 then n14 else n9 : Int) fun n15 =>
    letIn (if n14 > n9 then n14 else n9 : Int) fun n16 =>
    some (.s (.agg true [.v (.int .i64 n15), .v (.int .i64 n16)]), []) := by kernel_rfl

/-! armplan/interval.Valid -/
theorem fn48 (n : Nat) (a1 : Int) (a2 : Int) : (lvl Try.prog HH (n + 1)).2 48 [.s (.agg true [.v (.int .i64 a1), .v (.int .i64 a2)])] [] =
    bif decide (a1 ≥ (-2147483648)) then (
      bif decide (a1 ≤ a2) then (
        some (.s (.one (.v (.bool (decide (a2 ≤ 2147483648))))), []))
      else
      some (.s (.one (.v (.bool false))), []))
    else
    some (.s (.one (.v (.bool false))), []) := by kernel_rfl

/-! armplan/interval.both -/
theorem fn108 (n : Nat) (a1 : Int) (a2 : Int) (b3 : Int) (b4 : Int) : (lvl Try.prog HH (n + 1)).2 108 [.s (.agg true [.v (.int .i64 a1), .v (.int .i64 a2)]), .s (.agg true [.v (.int .i64 b3), .v (.int .i64 b4)])] [] =
    callT (lvl Try.prog HH (n + 0)).2 48 [.s (.agg true [.v (.int .i64 a1), .v (.int .i64 a2)])] [] outs48 mouts48 fun y5 m6 =>
    bif y5.1 then (
      callT (lvl Try.prog HH (n + 0)).2 48 [.s (.agg true [.v (.int .i64 b3), .v (.int .i64 b4)])] [] outs48 mouts48 fun y7 m8 =>
      some (.s (.one (.v (.bool y7.1))), []))
    else
    some (.s (.one (.v (.bool false))), []) := by kernel_rfl

end Go.Proofs.Ytfpdjpleplhcgaa.Am
