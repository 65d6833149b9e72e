/- PRINTED by amprint.py: what the abstract machine answers, function by function. -/
import Derived.Test.YtfpdjpleplhcgaaH
import Derived.KernelRfl
set_option linter.unusedVariables false
set_option maxRecDepth 100000
namespace Go.Proofs.Ytfpdjpleplhcgaa.Am
open Go Go.Proofs

/-! armplan/armplanref1.Valid -/
theorem fn103 (n : Nat) (a1 : Int) (a2 : Int) : (lvl Try.prog HH (n + 1)).2 103 [.s (.agg true [.v (.int .i64 a1), .v (.int .i64 a2)])] [] =
    bif decide ((-2147483648) ≤ a1) then (
      bif decide (a1 ≤ a2) then (
        some (.s (.one (.v (.bool (decide (a2 ≤ 2147483648))))), []))
      else
      some (.s (.one (.v (.bool false))), []))
    else
    some (.s (.one (.v (.bool false))), []) := by kernel_rfl

/-! armplan/armplanref1.limited -/
theorem fn162 (n : Nat) (lo1 : Int) (hi2 : Int) : (lvl Try.prog HH (n + 1)).2 162 [.s (.one (.v (.int .i64 lo1))), .s (.one (.v (.int .i64 hi2)))] [] =
    callT (lvl Try.prog HH (n + 0)).2 102 [.s (.one (.v (.int .i64 lo1)))] [] outs102 mouts102 fun y3 m4 =>
    callT (lvl Try.prog HH (n + 0)).2 102 [.s (.one (.v (.int .i64 hi2)))] [] outs102 mouts102 fun y5 m6 =>
    some (.s (.agg true [.v (.int .i64 y3.1), .v (.int .i64 y5.1)]), []) := by kernel_rfl

/-! armplan/armplanref1.Add -/
theorem fn104 (n : Nat) (a1 : Int) (a2 : Int) (b3 : Int) (b4 : Int) : (lvl Try.prog HH (n + 1)).2 104 [.s (.agg true [.v (.int .i64 a1), .v (.int .i64 a2)]), .s (.agg true [.v (.int .i64 b3), .v (.int .i64 b4)])] [] =
    callT (lvl Try.prog HH (n + 0)).2 103 [.s (.agg true [.v (.int .i64 a1), .v (.int .i64 a2)])] [] outs103 mouts103 fun y5 m6 =>
    bif !y5.1 then (
      some (.s (.agg true [.v (.int .i64 0), .v (.int .i64 0)]), []))
    else
    callT (lvl Try.prog HH (n + 0)).2 103 [.s (.agg true [.v (.int .i64 b3), .v (.int .i64 b4)])] [] outs103 mouts103 fun y7 m8 =>
    bif !y7.1 then (
      some (.s (.agg true [.v (.int .i64 0), .v (.int .i64 0)]), []))
    else
    letIn (IntKind.wrap .i64 (a1 + b3) : Int) fun n9 =>
    letIn (IntKind.wrap .i64 (a2 + b4) : Int) fun n10 =>
    callT (lvl Try.prog HH (n + 0)).2 162 [.s (.one (.v (.int .i64 n9))), .s (.one (.v (.int .i64 n10)))] [] outs162 mouts162 fun y11 m12 =>
    some (.s (.agg true [.v (.int .i64 y11.1.1), .v (.int .i64 y11.1.2.1)]), []) := by kernel_rfl

/-! armplan/interval.Sub -/
theorem fn68 (n : Nat) (a1 : Int) (a2 : Int) (b3 : Int) (b4 : Int) : (lvl Try.prog HH (n + 1)).2 68 [.s (.agg true [.v (.int .i64 a1), .v (.int .i64 a2)]), .s (.agg true [.v (.int .i64 b3), .v (.int .i64 b4)])] [] =
    callT (lvl Try.prog HH (n + 0)).2 108 [.s (.agg true [.v (.int .i64 a1), .v (.int .i64 a2)]), .s (.agg true [.v (.int .i64 b3), .v (.int .i64 b4)])] [] outs108 mouts108 fun y5 m6 =>
    bif !y5.1 then (
      some (.s (.agg true [.v (.int .i64 0), .v (.int .i64 0)]), []))
    else
    letIn (IntKind.wrap .i64 (a1 - b4) : Int) fun n7 =>
    letIn (IntKind.wrap .i64 (a2 - b3) : Int) fun n8 =>
    callT (lvl Try.prog HH (n + 0)).2 107 [.s (.one (.v (.int .i64 n7))), .s (.one (.v (.int .i64 n8)))] [] outs107 mouts107 fun y9 m10 =>
    some (.s (.agg true [.v (.int .i64 y9.1.1), .v (.int .i64 y9.1.2.1)]), []) := by kernel_rfl

/-! armplan/armplanref1.Sub -/
theorem fn105 (n : Nat) (a1 : Int) (a2 : Int) (b3 : Int) (b4 : Int) : (lvl Try.prog HH (n + 1)).2 105 [.s (.agg true [.v (.int .i64 a1), .v (.int .i64 a2)]), .s (.agg true [.v (.int .i64 b3), .v (.int .i64 b4)])] [] =
    callT (lvl Try.prog HH (n + 0)).2 103 [.s (.agg true [.v (.int .i64 a1), .v (.int .i64 a2)])] [] outs103 mouts103 fun y5 m6 =>
    bif !y5.1 then (
      some (.s (.agg true [.v (.int .i64 0), .v (.int .i64 0)]), []))
    else
    callT (lvl Try.prog HH (n + 0)).2 103 [.s (.agg true [.v (.int .i64 b3), .v (.int .i64 b4)])] [] outs103 mouts103 fun y7 m8 =>
    bif !y7.1 then (
      some (.s (.agg true [.v (.int .i64 0), .v (.int .i64 0)]), []))
    else
    letIn (IntKind.wrap .i64 (a1 - b4) : Int) fun n9 =>
    letIn (IntKind.wrap .i64 (a2 - b3) : Int) fun n10 =>
    callT (lvl Try.prog HH (n + 0)).2 162 [.s (.one (.v (.int .i64 n9))), .s (.one (.v (.int .i64 n10)))] [] outs162 mouts162 fun y11 m12 =>
    some (.s (.agg true [.v (.int .i64 y11.1.1), .v (.int .i64 y11.1.2.1)]), []) := by kernel_rfl

/-! armplan/interval.Neg -/
theorem fn73 (n : Nat) (a1 : Int) (a2 : Int) : (lvl Try.prog HH (n + 1)).2 73 [.s (.agg true [.v (.int .i64 a1), .v (.int .i64 a2)])] [] =
    callT (lvl Try.prog HH (n + 0)).2 48 [.s (.agg true [.v (.int .i64 a1), .v (.int .i64 a2)])] [] outs48 mouts48 fun y3 m4 =>
    bif !y3.1 then (
      some (.s (.agg true [.v (.int .i64 0), .v (.int .i64 0)]), []))
    else
    letIn (IntKind.wrap .i64 (0 - a2) : Int) fun n5 =>
    letIn (IntKind.wrap .i64 (0 - a1) : Int) fun n6 =>
    some (.s (.agg true [.v (.int .i64 n5), .v (.int .i64 n6)]), []) := by kernel_rfl

/-! armplan/armplanref1.Neg -/
theorem fn106 (n : Nat) (a1 : Int) (a2 : Int) : (lvl Try.prog HH (n + 1)).2 106 [.s (.agg true [.v (.int .i64 a1), .v (.int .i64 a2)])] [] =
    callT (lvl Try.prog HH (n + 0)).2 103 [.s (.agg true [.v (.int .i64 a1), .v (.int .i64 a2)])] [] outs103 mouts103 fun y3 m4 =>
    bif !y3.1 then (
      some (.s (.agg true [.v (.int .i64 0), .v (.int .i64 0)]), []))
    else
    letIn (IntKind.wrap .i64 (0 - a2) : Int) fun n5 =>
    letIn (IntKind.wrap .i64 (0 - a1) : Int) fun n6 =>
    some (.s (.agg true [.v (.int .i64 n5), .v (.int .i64 n6)]), []) := by kernel_rfl

/-! armplan/armplanlaw2.sums -/
theorem fn45 (n : Nat) (a1 : Int) (a2 : Int) (b3 : Int) (b4 : Int) : (lvl Try.prog HH (n + 1)).2 45 [.s (.agg true [.v (.int .i64 a1), .v (.int .i64 a2)]), .s (.agg true [.v (.int .i64 b3), .v (.int .i64 b4)])] [] =
    callT (lvl Try.prog HH (n + 0)).2 48 [.s (.agg true [.v (.int .i64 a1), .v (.int .i64 a2)])] [] outs48 mouts48 fun y5 m6 =>
    callT (lvl Try.prog HH (n + 0)).2 103 [.s (.agg true [.v (.int .i64 a1), .v (.int .i64 a2)])] [] outs103 mouts103 fun y7 m8 =>
    bif y5.1 == y7.1 then (
      callT (lvl Try.prog HH (n + 0)).2 67 [.s (.agg true [.v (.int .i64 a1), .v (.int .i64 a2)]), .s (.agg true [.v (.int .i64 b3), .v (.int .i64 b4)])] [] outs67 mouts67 fun y9 m10 =>
      callT (lvl Try.prog HH (n + 0)).2 104 [.s (.agg true [.v (.int .i64 a1), .v (.int .i64 a2)]), .s (.agg true [.v (.int .i64 b3), .v (.int .i64 b4)])] [] outs104 mouts104 fun y11 m12 =>
      letIn ((y9.1.1 == y11.1.1) && ((y9.1.2.1 == y11.1.2.1) && true) : Bool) fun b13 =>
      bif b13 then (
        callT (lvl Try.prog HH (n + 0)).2 68 [.s (.agg true [.v (.int .i64 a1), .v (.int .i64 a2)]), .s (.agg true [.v (.int .i64 b3), .v (.int .i64 b4)])] [] outs68 mouts68 fun y14 m15 =>
        callT (lvl Try.prog HH (n + 0)).2 105 [.s (.agg true [.v (.int .i64 a1), .v (.int .i64 a2)]), .s (.agg true [.v (.int .i64 b3), .v (.int .i64 b4)])] [] outs105 mouts105 fun y16 m17 =>
        letIn ((y14.1.1 == y16.1.1) && ((y14.1.2.1 == y16.1.2.1) && true) : Bool) fun b18 =>
        bif b18 then (
          callT (lvl Try.prog HH (n + 0)).2 73 [.s (.agg true [.v (.int .i64 a1), .v (.int .i64 a2)])] [] outs73 mouts73 fun y19 m20 =>
          callT (lvl Try.prog HH (n + 0)).2 106 [.s (.agg true [.v (.int .i64 a1), .v (.int .i64 a2)])] [] outs106 mouts106 fun y21 m22 =>
          letIn ((y19.1.1 == y21.1.1) && ((y19.1.2.1 == y21.1.2.1) && true) : Bool) fun b23 =>
          some (.s (.one (.v (.bool b23))), []))
        else
        some (.s (.one (.v (.bool false))), []))
      else
      some (.s (.one (.v (.bool false))), []))
    else
    some (.s (.one (.v (.bool false))), []) := by kernel_rfl

/-! armplan/armplanref1.Of -/
theorem fn47 (n : Nat) (x1 : Int) : (lvl Try.prog HH (n + 1)).2 47 [.s (.one (.v (.int .i64 x1)))] [] =
    callT (lvl Try.prog HH (n + 0)).2 102 [.s (.one (.v (.int .i64 x1)))] [] outs102 mouts102 fun y2 m3 =>
    callT (lvl Try.prog HH (n + 0)).2 102 [.s (.one (.v (.int .i64 x1)))] [] outs102 mouts102 fun y4 m5 =>
    some (.s (.agg true [.v (.int .i64 y2.1), .v (.int .i64 y4.1)]), []) := by kernel_rfl

/-! armplan/armplanlaw2.IntervalSums -/
theorem fn7 (n : Nat) (a1 : Int) (a2 : Int) (b3 : Int) (b4 : Int) (x5 : Int) (k6 : Int) (l7 : Int) (m8 : Int) (n9 : Int) : (lvl Try.prog HH (n + 1)).2 7 [.s (.agg true [.v (.int .i64 a1), .v (.int .i64 a2)]), .s (.agg true [.v (.int .i64 b3), .v (.int .i64 b4)]), .s (.one (.v (.int .i64 x5))), .s (.one (.v (.int .i64 k6))), .s (.one (.v (.int .i64 l7))), .s (.one (.v (.int .i64 m8))), .s (.one (.v (.int .i64 n9)))] [] =
    callT (lvl Try.prog HH (n + 0)).2 43 [.s (.one (.v (.int .i64 k6))), .s (.one (.v (.int .i64 l7)))] [] outs43 mouts43 fun y10 m11 =>
    callT (lvl Try.prog HH (n + 0)).2 43 [.s (.one (.v (.int .i64 m8))), .s (.one (.v (.int .i64 n9)))] [] outs43 mouts43 fun y12 m13 =>
    callT (lvl Try.prog HH (n + 0)).2 44 [] [] outs44 mouts44 fun y14 m15 =>
    bif y14.1 then (
      callT (lvl Try.prog HH (n + 0)).2 45 [.s (.agg true [.v (.int .i64 a1), .v (.int .i64 a2)]), .s (.agg true [.v (.int .i64 b3), .v (.int .i64 b4)])] [] outs45 mouts45 fun y16 m17 =>
      bif y16.1 then (
        callT (lvl Try.prog HH (n + 0)).2 45 [.s (.agg true [.v (.int .i64 y10.1.1), .v (.int .i64 y10.1.2.1)]), .s (.agg true [.v (.int .i64 y12.1.1), .v (.int .i64 y12.1.2.1)])] [] outs45 mouts45 fun y18 m19 =>
        bif y18.1 then (
          callT (lvl Try.prog HH (n + 0)).2 46 [.s (.one (.v (.int .i64 x5)))] [] outs46 mouts46 fun y20 m21 =>
          callT (lvl Try.prog HH (n + 0)).2 47 [.s (.one (.v (.int .i64 x5)))] [] outs47 mouts47 fun y22 m23 =>
          letIn ((y20.1.1 == y22.1.1) && ((y20.1.2.1 == y22.1.2.1) && true) : Bool) fun b24 =>
          bif b24 then (
            callT (lvl Try.prog HH (n + 0)).2 48 [.s (.agg true [.v (.int .i64 y10.1.1), .v (.int .i64 y10.1.2.1)])] [] outs48 mouts48 fun y25 m26 =>
            some (.s (.one (.v (.bool y25.1))), []))
          else
          some (.s (.one (.v (.bool false))), []))
        else
        some (.s (.one (.v (.bool false))), []))
      else
      some (.s (.one (.v (.bool false))), []))
    else
    some (.s (.one (.v (.bool false))), []) := by kernel_rfl

end Go.Proofs.Ytfpdjpleplhcgaa.Am
