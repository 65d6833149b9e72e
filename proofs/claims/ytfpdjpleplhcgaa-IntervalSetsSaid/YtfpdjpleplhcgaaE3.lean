/- PRINTED by amprint.py: what the abstract machine answers, function by function. -/
import Derived.Test.YtfpdjpleplhcgaaH
import Derived.KernelRfl
set_option linter.unusedVariables false
set_option maxRecDepth 100000
namespace Go.Proofs.Ytfpdjpleplhcgaa.Am
open Go Go.Proofs

/-! armplan/armplanmake.Part -/
theorem fn65 (n : Nat) (a1 : Int) (a2 : Int) (m3 : Int) (n4 : Int) : (lvl Try.prog HH (n + 1)).2 65 [.s (.agg true [.v (.int .i64 a1), .v (.int .i64 a2)]), .s (.one (.v (.int .i64 m3))), .s (.one (.v (.int .i64 n4)))] [] =
    letIn (IntKind.wrap .i64 (a2 - a1) : Int) fun n5 =>
    letIn (IntKind.wrap .i64 (n5 + 1) : Int) fun n6 =>
    callT (lvl Try.prog HH (n + 0)).2 41 [.s (.one (.v (.int .i64 m3))), .s (.one (.v (.int .i64 n6)))] [] outs41 mouts41 fun y7 m8 =>
    letIn (IntKind.wrap .i64 (a1 + y7.1) : Int) fun n9 =>
    letIn (IntKind.wrap .i64 ((BitVec.ofInt 64 n4 &&& BitVec.ofInt 64 1).toNat : Nat) : Int) fun n10 =>
    bif n10 == 0 then (
      some (.s (.agg true [.v (.int .i64 n9), .v (.int .i64 n9)]), []))
    else
    letIn (Int.fdiv n4 2 : Int) fun n11 =>
    callT (lvl Try.prog HH (n + 0)).2 41 [.s (.one (.v (.int .i64 n11))), .s (.one (.v (.int .i64 n6)))] [] outs41 mouts41 fun y12 m13 =>
    letIn (IntKind.wrap .i64 (a1 + y12.1) : Int) fun n14 =>
    letIn (if n14 < n9 then n14 else n9 : Int) fun n15 =>
    letIn (if n14 > n9 then n14 else n9 : Int) fun n16 =>
    some (.s (.agg true [.v (.int .i64 n15), .v (.int .i64 n16)]), []) := by kernel_rfl

/-! armplan/armplanlaw2.IntervalSets -/
theorem fn20 (n : Nat) (a1 : Int) (a2 : Int) (b3 : Int) (b4 : Int) (x5 : Int) (k6 : Int) (l7 : Int) (m8 : Int) (n9 : Int) : (lvl Try.prog HH (n + 1)).2 20 [.s (.agg true [.v (.int .i64 a1), .v (.int .i64 a2)]), .s (.agg true [.v (.int .i64 b3), .v (.int .i64 b4)]), .s (.one (.v (.int .i64 x5))), .s (.one (.v (.int .i64 k6))), .s (.one (.v (.int .i64 l7))), .s (.one (.v (.int .i64 m8))), .s (.one (.v (.int .i64 n9)))] [] =
    callT (lvl Try.prog HH (n + 0)).2 43 [.s (.one (.v (.int .i64 k6))), .s (.one (.v (.int .i64 l7)))] [] outs43 mouts43 fun y10 m11 =>
    callT (lvl Try.prog HH (n + 0)).2 43 [.s (.one (.v (.int .i64 m8))), .s (.one (.v (.int .i64 n9)))] [] outs43 mouts43 fun y12 m13 =>
    callT (lvl Try.prog HH (n + 0)).2 44 [] [] outs44 mouts44 fun y14 m15 =>
    bif y14.1 then (
      callT (lvl Try.prog HH (n + 0)).2 78 [.s (.agg true [.v (.int .i64 a1), .v (.int .i64 a2)]), .s (.agg true [.v (.int .i64 b3), .v (.int .i64 b4)]), .s (.one (.v (.int .i64 x5)))] [] outs78 mouts78 fun y16 m17 =>
      bif y16.1 then (
        callT (lvl Try.prog HH (n + 0)).2 41 [.s (.one (.v (.int .i64 n9))), .s (.one (.v (.int .i64 9)))] [] outs41 mouts41 fun y18 m19 =>
        letIn (IntKind.wrap .i64 (y10.1.1 + y18.1) : Int) fun n20 =>
        letIn (IntKind.wrap .i64 (n20 - 4) : Int) fun n21 =>
        callT (lvl Try.prog HH (n + 0)).2 78 [.s (.agg true [.v (.int .i64 y10.1.1), .v (.int .i64 y10.1.2.1)]), .s (.agg true [.v (.int .i64 y12.1.1), .v (.int .i64 y12.1.2.1)]), .s (.one (.v (.int .i64 n21)))] [] outs78 mouts78 fun y22 m23 =>
        bif y22.1 then (
          callT (lvl Try.prog HH (n + 0)).2 65 [.s (.agg true [.v (.int .i64 y10.1.1), .v (.int .i64 y10.1.2.1)]), .s (.one (.v (.int .i64 m8))), .s (.one (.v (.int .i64 n9)))] [] outs65 mouts65 fun y24 m25 =>
          callT (lvl Try.prog HH (n + 0)).2 78 [.s (.agg true [.v (.int .i64 y10.1.1), .v (.int .i64 y10.1.2.1)]), .s (.agg true [.v (.int .i64 y24.1.1), .v (.int .i64 y24.1.2.1)]), .s (.one (.v (.int .i64 y10.1.2.1)))] [] outs78 mouts78 fun y26 m27 =>
          some (.s (.one (.v (.bool y26.1))), []))
        else
        some (.s (.one (.v (.bool false))), []))
      else
      some (.s (.one (.v (.bool false))), []))
    else
    some (.s (.one (.v (.bool false))), []) := by kernel_rfl

end Go.Proofs.Ytfpdjpleplhcgaa.Am
