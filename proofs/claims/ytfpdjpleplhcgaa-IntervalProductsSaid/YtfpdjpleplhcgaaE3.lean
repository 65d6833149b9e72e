/- PRINTED by amprint.py: what the abstract machine answers, function by function. -/
import Derived.Test.YtfpdjpleplhcgaaH
import Derived.KernelRfl
set_option linter.unusedVariables false
set_option maxRecDepth 100000
namespace Go.Proofs.Ytfpdjpleplhcgaa.Am
open Go Go.Proofs

/-! armplan/armplanlaw2.products -/
theorem fn82 (n : Nat) (a1 : Int) (a2 : Int) (b3 : Int) (b4 : Int) (x5 : Int) : (lvl Try.prog HH (n + 1)).2 82 [.s (.agg true [.v (.int .i64 a1), .v (.int .i64 a2)]), .s (.agg true [.v (.int .i64 b3), .v (.int .i64 b4)]), .s (.one (.v (.int .i64 x5)))] [] =
    callT (lvl Try.prog HH (n + 0)).2 69 [.s (.agg true [.v (.int .i64 a1), .v (.int .i64 a2)]), .s (.agg true [.v (.int .i64 b3), .v (.int .i64 b4)])] [] outs69 mouts69 fun y6 m7 =>
    callT (lvl Try.prog HH (n + 0)).2 137 [.s (.agg true [.v (.int .i64 a1), .v (.int .i64 a2)]), .s (.agg true [.v (.int .i64 b3), .v (.int .i64 b4)])] [] outs137 mouts137 fun y8 m9 =>
    letIn ((y6.1.1 == y8.1.1) && ((y6.1.2.1 == y8.1.2.1) && true) : Bool) fun b10 =>
    bif b10 then (
      callT (lvl Try.prog HH (n + 0)).2 79 [.s (.agg true [.v (.int .i64 a1), .v (.int .i64 a2)]), .s (.one (.v (.int .i64 x5)))] [] outs79 mouts79 fun y11 m12 =>
      callT (lvl Try.prog HH (n + 0)).2 138 [.s (.agg true [.v (.int .i64 a1), .v (.int .i64 a2)]), .s (.one (.v (.int .i64 x5)))] [] outs138 mouts138 fun y13 m14 =>
      letIn ((y11.1.1 == y13.1.1) && ((y11.1.2.1 == y13.1.2.1) && true) : Bool) fun b15 =>
      bif b15 then (
        callT (lvl Try.prog HH (n + 0)).2 72 [.s (.agg true [.v (.int .i64 a1), .v (.int .i64 a2)])] [] outs72 mouts72 fun y16 m17 =>
        callT (lvl Try.prog HH (n + 0)).2 139 [.s (.agg true [.v (.int .i64 a1), .v (.int .i64 a2)])] [] outs139 mouts139 fun y18 m19 =>
        letIn ((y16.1.1 == y18.1.1) && ((y16.1.2.1 == y18.1.2.1) && true) : Bool) fun b20 =>
        bif b20 then (
          callT (lvl Try.prog HH (n + 0)).2 81 [.s (.agg true [.v (.int .i64 a1), .v (.int .i64 a2)])] [] outs81 mouts81 fun y21 m22 =>
          callT (lvl Try.prog HH (n + 0)).2 140 [.s (.agg true [.v (.int .i64 a1), .v (.int .i64 a2)])] [] outs140 mouts140 fun y23 m24 =>
          letIn ((y21.1.1 == y23.1.1) && ((y21.1.2.1 == y23.1.2.1) && true) : Bool) fun b25 =>
          some (.s (.one (.v (.bool b25))), []))
        else
        some (.s (.one (.v (.bool false))), []))
      else
      some (.s (.one (.v (.bool false))), []))
    else
    some (.s (.one (.v (.bool false))), []) := by kernel_rfl

/-! armplan/armplanmake.Round -/
theorem fn41 (n : Nat) (n1 : Int) (k2 : Int) : (lvl Try.prog HH (n + 1)).2 41 [.s (.one (.v (.int .i64 n1))), .s (.one (.v (.int .i64 k2)))] [] =
    bif k2 == 0 then (
      none)
    else
    letIn (Int.tmod n1 k2 : Int) fun n3 =>
    bif decide (n3 < 0) then (
      letIn (IntKind.wrap .i64 (n3 + k2) : Int) fun n4 =>
      some (.s (.one (.v (.int .i64 n4))), []))
    else
    some (.s (.one (.v (.int .i64 n3))), []) := by kernel_rfl

/-! armplan/armplanmake.Interval -/
theorem fn43 (n : Nat) (a1 : Int) (b2 : Int) : (lvl Try.prog HH (n + 1)).2 43 [.s (.one (.v (.int .i64 a1))), .s (.one (.v (.int .i64 b2)))] [] =
    letIn (Int.fdiv a1 8 : Int) fun n3 =>
    callT (lvl Try.prog HH (n + 0)).2 41 [.s (.one (.v (.int .i64 n3))), .s (.one (.v (.int .i64 27)))] [] outs41 mouts41 fun y4 m5 =>
    letIn (IntKind.wrap .i64 (4 + y4.1) : Int) fun n6 =>
    letIn (IntKind.wrap .u64 n6 : Int) fun n7 =>
    bif decide (n7 < 0) then (
      none)
    else
    letIn (IntKind.wrap .i64 (1 * (2 ^ min n7.toNat 64)) : Int) fun n8 =>
    letIn (IntKind.wrap .i64 (2 * n8) : Int) fun n9 =>
    letIn (IntKind.wrap .i64 (n9 + 1) : Int) fun n10 =>
    callT (lvl Try.prog HH (n + 0)).2 41 [.s (.one (.v (.int .i64 a1))), .s (.one (.v (.int .i64 n10)))] [] outs41 mouts41 fun y11 m12 =>
    letIn (IntKind.wrap .i64 (y11.1 - n8) : Int) fun n13 =>
    letIn (IntKind.wrap .i64 (2 * n8) : Int) fun n14 =>
    letIn (IntKind.wrap .i64 (n14 + 1) : Int) fun n15 =>
    callT (lvl Try.prog HH (n + 0)).2 41 [.s (.one (.v (.int .i64 b2))), .s (.one (.v (.int .i64 n15)))] [] outs41 mouts41 fun y16 m17 =>
    letIn (IntKind.wrap .i64 (y16.1 - n8) : Int) fun n18 =>
    letIn (IntKind.wrap .i64 ((BitVec.ofInt 64 b2 &&& BitVec.ofInt 64 1).toNat : Nat) : Int) fun n19 =>
    bif n19 == 0 then (
      letIn (Int.fdiv b2 2 : Int) fun n20 =>
      letIn (IntKind.wrap .i64 (Int.tdiv n8 8) : Int) fun n21 =>
      letIn (IntKind.wrap .i64 (1 + n21) : Int) fun n22 =>
      callT (lvl Try.prog HH (n + 0)).2 41 [.s (.one (.v (.int .i64 n20))), .s (.one (.v (.int .i64 n22)))] [] outs41 mouts41 fun y23 m24 =>
      letIn (IntKind.wrap .i64 (n13 + y23.1) : Int) fun n25 =>
      callT (lvl Try.prog HH (n + 0)).2 102 [.s (.one (.v (.int .i64 n13)))] [] outs102 mouts102 fun y26 m27 =>
      callT (lvl Try.prog HH (n + 0)).2 102 [.s (.one (.v (.int .i64 n25)))] [] outs102 mouts102 fun y28 m29 =>
      letIn (if y28.1 < y26.1 then y28.1 else y26.1 : Int) fun n30 =>
      callT (lvl Try.prog HH (n + 0)).2 102 [.s (.one (.v (.int .i64 n13)))] [] outs102 mouts102 fun y31 m32 =>
      callT (lvl Try.prog HH (n + 0)).2 102 [.s (.one (.v (.int .i64 n25)))] [] outs102 mouts102 fun y33 m34 =>
      letIn (if y33.1 > y31.1 then y33.1 else y31.1 : Int) fun n35 =>
      some (.s (.agg true [.v (.int .i64 n30), .v (.int .i64 n35)]), []))
    else
    callT (lvl Try.prog HH (n + 0)).2 102 [.s (.one (.v (.int .i64 n13)))] [] outs102 mouts102 fun y36 m37 =>
    callT (lvl Try.prog HH (n + 0)).2 102 [.s (.one (.v (.int .i64 n18)))] [] outs102 mouts102 fun y38 m39 =>
    letIn (if y38.1 < y36.1 then y38.1 else y36.1 : Int) fun n40 =>
    callT (lvl Try.prog HH (n + 0)).2 102 [.s (.one (.v (.int .i64 n13)))] [] outs102 mouts102 fun y41 m42 =>
    callT (lvl Try.prog HH (n + 0)).2 102 [.s (.one (.v (.int .i64 n18)))] [] outs102 mouts102 fun y43 m44 =>
    letIn (if y43.1 > y41.1 then y43.1 else y41.1 : Int) fun n45 =>
    some (.s (.agg true [.v (.int .i64 n40), .v (.int .i64 n45)]), []) := by kernel_rfl

/-! armplan/armplanlaw2.IntervalProducts -/
theorem fn24 (n : Nat) (a1 : Int) (a2 : Int) (b3 : Int) (b4 : Int) (x5 : Int) (k6 : Int) (l7 : Int) (m8 : Int) (n9 : Int) : (lvl Try.prog HH (n + 1)).2 24 [.s (.agg true [.v (.int .i64 a1), .v (.int .i64 a2)]), .s (.agg true [.v (.int .i64 b3), .v (.int .i64 b4)]), .s (.one (.v (.int .i64 x5))), .s (.one (.v (.int .i64 k6))), .s (.one (.v (.int .i64 l7))), .s (.one (.v (.int .i64 m8))), .s (.one (.v (.int .i64 n9)))] [] =
    callT (lvl Try.prog HH (n + 0)).2 44 [] [] outs44 mouts44 fun y10 m11 =>
    bif y10.1 then (
      callT (lvl Try.prog HH (n + 0)).2 82 [.s (.agg true [.v (.int .i64 a1), .v (.int .i64 a2)]), .s (.agg true [.v (.int .i64 b3), .v (.int .i64 b4)]), .s (.one (.v (.int .i64 x5)))] [] outs82 mouts82 fun y12 m13 =>
      bif y12.1 then (
        callT (lvl Try.prog HH (n + 0)).2 43 [.s (.one (.v (.int .i64 k6))), .s (.one (.v (.int .i64 l7)))] [] outs43 mouts43 fun y14 m15 =>
        callT (lvl Try.prog HH (n + 0)).2 43 [.s (.one (.v (.int .i64 m8))), .s (.one (.v (.int .i64 n9)))] [] outs43 mouts43 fun y16 m17 =>
        callT (lvl Try.prog HH (n + 0)).2 41 [.s (.one (.v (.int .i64 k6))), .s (.one (.v (.int .i64 60)))] [] outs41 mouts41 fun y18 m19 =>
        letIn (IntKind.wrap .u64 y18.1 : Int) fun n20 =>
        bif decide (n20 < 0) then (
          none)
        else
        letIn (Int.fdiv x5 (2 ^ min n20.toNat 64) : Int) fun n21 =>
        callT (lvl Try.prog HH (n + 0)).2 82 [.s (.agg true [.v (.int .i64 y14.1.1), .v (.int .i64 y14.1.2.1)]), .s (.agg true [.v (.int .i64 y16.1.1), .v (.int .i64 y16.1.2.1)]), .s (.one (.v (.int .i64 n21)))] [] outs82 mouts82 fun y22 m23 =>
        some (.s (.one (.v (.bool y22.1))), []))
      else
      some (.s (.one (.v (.bool false))), []))
    else
    some (.s (.one (.v (.bool false))), []) := by kernel_rfl

end Go.Proofs.Ytfpdjpleplhcgaa.Am
