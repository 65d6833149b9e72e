/- PRINTED by amprint.py: what the abstract machine answers, function by function. -/
import Derived.Test.YtfpdjpleplhcgaaH
import Derived.KernelRfl
set_option linter.unusedVariables false
set_option maxRecDepth 100000
namespace Go.Proofs.Ytfpdjpleplhcgaa.Am
open Go Go.Proofs

/-! armplan/armplanref10.Dot -/
theorem fn111 (n : Nat) (n1 : Int) (n2 : Int) (n3 : Int) (v4 : Int) (v5 : Int) (v6 : Int) (v7 : Int) (v8 : Int) (v9 : Int) : (lvl Try.prog HH (n + 5)).2 111 [.s (.agg true [.v (.int .i64 n1), .v (.int .i64 n2), .v (.int .i64 n3)]), .s (.agg true [.v (.int .i64 v4), .v (.int .i64 v5), .v (.int .i64 v6), .v (.int .i64 v7), .v (.int .i64 v8), .v (.int .i64 v9)])] [] =
    callT (lvl Try.prog HH (n + 4)).2 109 [.s (.agg true [.v (.int .i64 n1), .v (.int .i64 n2), .v (.int .i64 n3)])] [] outs109 mouts109 fun y10 m11 =>
    bif !y10.1 then (
      some (.tup [.one (.v (.int .i64 0)), .one (.v (.int .i64 0))], []))
    else
    callT (lvl Try.prog HH (n + 4)).2 164 [.s (.agg true [.v (.int .i64 v4), .v (.int .i64 v5), .v (.int .i64 v6), .v (.int .i64 v7), .v (.int .i64 v8), .v (.int .i64 v9)])] [] outs164 mouts164 fun y12 m13 =>
    bif !y12.1 then (
      some (.tup [.one (.v (.int .i64 0)), .one (.v (.int .i64 0))], []))
    else
    letIn (IntKind.wrap .i64 (n1 * v4) : Int) fun n14 =>
    letIn (IntKind.wrap .i64 (n1 * v5) : Int) fun n15 =>
    letIn (if n15 < n14 then n15 else n14 : Int) fun n16 =>
    letIn (IntKind.wrap .i64 (0 + n16) : Int) fun n17 =>
    letIn (if n15 > n14 then n15 else n14 : Int) fun n18 =>
    letIn (IntKind.wrap .i64 (0 + n18) : Int) fun n19 =>
    letIn (IntKind.wrap .i64 (n2 * v6) : Int) fun n20 =>
    letIn (IntKind.wrap .i64 (n2 * v7) : Int) fun n21 =>
    letIn (if n21 < n20 then n21 else n20 : Int) fun n22 =>
    letIn (IntKind.wrap .i64 (n17 + n22) : Int) fun n23 =>
    letIn (if n21 > n20 then n21 else n20 : Int) fun n24 =>
    letIn (IntKind.wrap .i64 (n19 + n24) : Int) fun n25 =>
    letIn (IntKind.wrap .i64 (n3 * v8) : Int) fun n26 =>
    letIn (IntKind.wrap .i64 (n3 * v9) : Int) fun n27 =>
    letIn (if n27 < n26 then n27 else n26 : Int) fun n28 =>
    letIn (IntKind.wrap .i64 (n23 + n28) : Int) fun n29 =>
    letIn (if n27 > n26 then n27 else n26 : Int) fun n30 =>
    letIn (IntKind.wrap .i64 (n25 + n30) : Int) fun n31 =>
    some (.tup [.one (.v (.int .i64 n29)), .one (.v (.int .i64 n31))], []) := by kernel_rfl

/-! armplan/armplanlaw13.dots -/
theorem fn55 (n : Nat) (n1 : Int) (n2 : Int) (n3 : Int) (v4 : Int) (v5 : Int) (v6 : Int) (v7 : Int) (v8 : Int) (v9 : Int) : (lvl Try.prog HH (n + 1)).2 55 [.s (.agg true [.v (.int .i64 n1), .v (.int .i64 n2), .v (.int .i64 n3)]), .s (.agg true [.v (.int .i64 v4), .v (.int .i64 v5), .v (.int .i64 v6), .v (.int .i64 v7), .v (.int .i64 v8), .v (.int .i64 v9)])] [] =
    callT (lvl Try.prog HH (n + 0)).2 110 [.s (.agg true [.v (.int .i64 n1), .v (.int .i64 n2), .v (.int .i64 n3)]), .s (.agg true [.v (.int .i64 v4), .v (.int .i64 v5), .v (.int .i64 v6), .v (.int .i64 v7), .v (.int .i64 v8), .v (.int .i64 v9)])] [] outs110 mouts110 fun y10 m11 =>
    callT (lvl Try.prog HH (n + 0)).2 111 [.s (.agg true [.v (.int .i64 n1), .v (.int .i64 n2), .v (.int .i64 n3)]), .s (.agg true [.v (.int .i64 v4), .v (.int .i64 v5), .v (.int .i64 v6), .v (.int .i64 v7), .v (.int .i64 v8), .v (.int .i64 v9)])] [] outs111 mouts111 fun y12 m13 =>
    bif y10.1 == y12.1 then (
      some (.s (.one (.v (.bool (y10.2.1 == y12.2.1)))), []))
    else
    some (.s (.one (.v (.bool false))), []) := by kernel_rfl

/-! armplan/armplanlaw13.SupportDots -/
theorem fn9 (n : Nat) (n1 : Int) (n2 : Int) (n3 : Int) (v4 : Int) (v5 : Int) (v6 : Int) (v7 : Int) (v8 : Int) (v9 : Int) (a10 : Int) (b11 : Int) (c12 : Int) (l13 : List (List D1)) : (lvl Try.prog HH (n + 1)).2 9 [.s (.agg true [.v (.int .i64 n1), .v (.int .i64 n2), .v (.int .i64 n3)]), .s (.agg true [.v (.int .i64 v4), .v (.int .i64 v5), .v (.int .i64 v6), .v (.int .i64 v7), .v (.int .i64 v8), .v (.int .i64 v9)]), .s (.one (.v (.int .i64 a10))), .s (.one (.v (.int .i64 b11))), .s (.one (.v (.int .i64 c12))), .s (.one (.fr 1 l13))] [] =
    callT (lvl Try.prog HH (n + 0)).2 53 [.s (.one (.v (.int .i64 a10))), .s (.one (.v (.int .i64 b11))), .s (.one (.v (.int .i64 c12)))] [] outs53 mouts53 fun y14 m15 =>
    callT (lvl Try.prog HH (n + 0)).2 34 [.s (.one (.fr 1 l13)), .s (.one (.v (.int .i64 3000)))] [] outs34 mouts34 fun y16 m17 =>
    (nth y16.1 0).bind fun cs18 =>
    bif Nat.beq ((cs18.drop 0).take 6).length 6 then (
      decCts [.int .i64, .int .i64, .int .i64, .int .i64, .int .i64, .int .i64] ((cs18.drop 0).take 6) fun c19 =>
      callT (lvl Try.prog HH (n + 0)).2 54 [] [] outs54 mouts54 fun y20 m21 =>
      bif y20.1 then (
        callT (lvl Try.prog HH (n + 0)).2 55 [.s (.agg true [.v (.int .i64 n1), .v (.int .i64 n2), .v (.int .i64 n3)]), .s (.agg true [.v (.int .i64 v4), .v (.int .i64 v5), .v (.int .i64 v6), .v (.int .i64 v7), .v (.int .i64 v8), .v (.int .i64 v9)])] [] outs55 mouts55 fun y22 m23 =>
        bif y22.1 then (
          callT (lvl Try.prog HH (n + 0)).2 55 [.s (.agg true [.v (.int .i64 y14.1.1), .v (.int .i64 y14.1.2.1), .v (.int .i64 y14.1.2.2.1)]), .s (.agg true [.v (.int .i64 c19.1), .v (.int .i64 c19.2.1), .v (.int .i64 c19.2.2.1), .v (.int .i64 c19.2.2.2.1), .v (.int .i64 c19.2.2.2.2.1), .v (.int .i64 c19.2.2.2.2.2.1)])] [] outs55 mouts55 fun y24 m25 =>
          bif y24.1 then (
            callT (lvl Try.prog HH (n + 0)).2 55 [.s (.agg true [.v (.int .i64 y14.1.1), .v (.int .i64 y14.1.2.1), .v (.int .i64 y14.1.2.2.1)]), .s (.agg true [.v (.int .i64 v4), .v (.int .i64 v5), .v (.int .i64 v6), .v (.int .i64 v7), .v (.int .i64 v8), .v (.int .i64 v9)])] [] outs55 mouts55 fun y26 m27 =>
            bif y26.1 then (
              callT (lvl Try.prog HH (n + 0)).2 55 [.s (.agg true [.v (.int .i64 n1), .v (.int .i64 n2), .v (.int .i64 n3)]), .s (.agg true [.v (.int .i64 c19.1), .v (.int .i64 c19.2.1), .v (.int .i64 c19.2.2.1), .v (.int .i64 c19.2.2.2.1), .v (.int .i64 c19.2.2.2.2.1), .v (.int .i64 c19.2.2.2.2.2.1)])] [] outs55 mouts55 fun y28 m29 =>
              some (.s (.one (.v (.bool y28.1))), []))
            else
            some (.s (.one (.v (.bool false))), []))
          else
          some (.s (.one (.v (.bool false))), []))
        else
        some (.s (.one (.v (.bool false))), []))
      else
      some (.s (.one (.v (.bool false))), []))
    else
    none := by kernel_rfl

end Go.Proofs.Ytfpdjpleplhcgaa.Am
