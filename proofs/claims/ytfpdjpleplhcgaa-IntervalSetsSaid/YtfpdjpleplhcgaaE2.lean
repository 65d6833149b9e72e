/- PRINTED by amprint.py: what the abstract machine answers, function by function. -/
import Derived.Test.YtfpdjpleplhcgaaH
import Derived.KernelRfl
set_option linter.unusedVariables false
set_option maxRecDepth 100000
namespace Go.Proofs.Ytfpdjpleplhcgaa.Am
open Go Go.Proofs

/-! armplan/armplanref1.Hull -/
theorem fn122 (n : Nat) (a1 : Int) (a2 : Int) (b3 : Int) (b4 : Int) : (lvl Try.prog HH (n + 1)).2 122 [.s (.agg true [.v (.int .i64 a1), .v (.int .i64 a2)]), .s (.agg true [.v (.int .i64 b3), .v (.int .i64 b4)])] [] =
    callT (lvl Try.prog HH (n + 0)).2 103 [.s (.agg true [.v (.int .i64 a1), .v (.int .i64 a2)])] [] outs103 mouts103 fun y5 m6 =>
    bif !y5.1 then (
      some (.s (.agg true [.v (.int .i64 0), .v (.int .i64 0)]), []))
    else
    callT (lvl Try.prog HH (n + 0)).2 103 [.s (.agg true [.v (.int .i64 b3), .v (.int .i64 b4)])] [] outs103 mouts103 fun y7 m8 =>
    bif !y7.1 then (
      some (.s (.agg true [.v (.int .i64 0), .v (.int .i64 0)]), []))
    else
    letIn (if b3 < a1 then b3 else a1 : Int) fun n9 =>
    letIn (if b4 > a2 then b4 else a2 : Int) fun n10 =>
    some (.s (.agg true [.v (.int .i64 n9), .v (.int .i64 n10)]), []) := by kernel_rfl

/-! armplan/interval.Has -/
theorem fn50 (n : Nat) (a1 : Int) (a2 : Int) (x3 : Int) : (lvl Try.prog HH (n + 1)).2 50 [.s (.agg true [.v (.int .i64 a1), .v (.int .i64 a2)]), .s (.one (.v (.int .i64 x3)))] [] =
    callT (lvl Try.prog HH (n + 0)).2 48 [.s (.agg true [.v (.int .i64 a1), .v (.int .i64 a2)])] [] outs48 mouts48 fun y4 m5 =>
    bif y4.1 then (
      bif decide (x3 ≥ a1) then (
        some (.s (.one (.v (.bool (decide (x3 ≤ a2))))), []))
      else
      some (.s (.one (.v (.bool false))), []))
    else
    some (.s (.one (.v (.bool false))), []) := by kernel_rfl

/-! armplan/armplanref1.Has -/
theorem fn123 (n : Nat) (a1 : Int) (a2 : Int) (x3 : Int) : (lvl Try.prog HH (n + 1)).2 123 [.s (.agg true [.v (.int .i64 a1), .v (.int .i64 a2)]), .s (.one (.v (.int .i64 x3)))] [] =
    callT (lvl Try.prog HH (n + 0)).2 103 [.s (.agg true [.v (.int .i64 a1), .v (.int .i64 a2)])] [] outs103 mouts103 fun y4 m5 =>
    bif y4.1 then (
      bif decide (a1 ≤ x3) then (
        some (.s (.one (.v (.bool (decide (x3 ≤ a2))))), []))
      else
      some (.s (.one (.v (.bool false))), []))
    else
    some (.s (.one (.v (.bool false))), []) := by kernel_rfl

/-! armplan/interval.Within -/
theorem fn51 (n : Nat) (a1 : Int) (a2 : Int) (b3 : Int) (b4 : Int) : (lvl Try.prog HH (n + 1)).2 51 [.s (.agg true [.v (.int .i64 a1), .v (.int .i64 a2)]), .s (.agg true [.v (.int .i64 b3), .v (.int .i64 b4)])] [] =
    callT (lvl Try.prog HH (n + 0)).2 108 [.s (.agg true [.v (.int .i64 a1), .v (.int .i64 a2)]), .s (.agg true [.v (.int .i64 b3), .v (.int .i64 b4)])] [] outs108 mouts108 fun y5 m6 =>
    bif y5.1 then (
      bif decide (b3 ≤ a1) then (
        some (.s (.one (.v (.bool (decide (a2 ≤ b4))))), []))
      else
      some (.s (.one (.v (.bool false))), []))
    else
    some (.s (.one (.v (.bool false))), []) := by kernel_rfl

/-! armplan/armplanref1.Within -/
theorem fn124 (n : Nat) (a1 : Int) (a2 : Int) (b3 : Int) (b4 : Int) : (lvl Try.prog HH (n + 1)).2 124 [.s (.agg true [.v (.int .i64 a1), .v (.int .i64 a2)]), .s (.agg true [.v (.int .i64 b3), .v (.int .i64 b4)])] [] =
    callT (lvl Try.prog HH (n + 0)).2 103 [.s (.agg true [.v (.int .i64 a1), .v (.int .i64 a2)])] [] outs103 mouts103 fun y5 m6 =>
    bif y5.1 then (
      callT (lvl Try.prog HH (n + 0)).2 103 [.s (.agg true [.v (.int .i64 b3), .v (.int .i64 b4)])] [] outs103 mouts103 fun y7 m8 =>
      bif y7.1 then (
        bif decide (b3 ≤ a1) then (
          some (.s (.one (.v (.bool (decide (a2 ≤ b4))))), []))
        else
        some (.s (.one (.v (.bool false))), []))
      else
      some (.s (.one (.v (.bool false))), []))
    else
    some (.s (.one (.v (.bool false))), []) := by kernel_rfl

/-! armplan/interval.Mid -/
theorem fn125 (n : Nat) (a1 : Int) (a2 : Int) : (lvl Try.prog HH (n + 1)).2 125 [.s (.agg true [.v (.int .i64 a1), .v (.int .i64 a2)])] [] =
    callT (lvl Try.prog HH (n + 0)).2 48 [.s (.agg true [.v (.int .i64 a1), .v (.int .i64 a2)])] [] outs48 mouts48 fun y3 m4 =>
    bif !y3.1 then (
      some (.s (.one (.v (.int .i64 0))), []))
    else
    letIn (IntKind.wrap .i64 (a1 + a2) : Int) fun n5 =>
    letIn (Int.fdiv n5 2 : Int) fun n6 =>
    some (.s (.one (.v (.int .i64 n6))), []) := by kernel_rfl

/-! armplan/armplanref1.Floor -/
theorem fn116 (n : Nat) (a1 : Int) (b2 : Int) : (lvl Try.prog HH (n + 1)).2 116 [.s (.one (.v (.int .i64 a1))), .s (.one (.v (.int .i64 b2)))] [] =
    bif b2 == 0 then (
      none)
    else
    letIn (IntKind.wrap .i64 (Int.tdiv a1 b2) : Int) fun n3 =>
    bif b2 == 0 then (
      none)
    else
    letIn (Int.tmod a1 b2 : Int) fun n4 =>
    bif decide (n4 < 0) then (
      letIn (IntKind.wrap .i64 (n3 - 1) : Int) fun n5 =>
      some (.s (.one (.v (.int .i64 n5))), []))
    else
    some (.s (.one (.v (.int .i64 n3))), []) := by kernel_rfl

/-! armplan/armplanref1.Mid -/
theorem fn126 (n : Nat) (a1 : Int) (a2 : Int) : (lvl Try.prog HH (n + 1)).2 126 [.s (.agg true [.v (.int .i64 a1), .v (.int .i64 a2)])] [] =
    callT (lvl Try.prog HH (n + 0)).2 103 [.s (.agg true [.v (.int .i64 a1), .v (.int .i64 a2)])] [] outs103 mouts103 fun y3 m4 =>
    bif !y3.1 then (
      some (.s (.one (.v (.int .i64 0))), []))
    else
    letIn (IntKind.wrap .i64 (a1 + a2) : Int) fun n5 =>
    callT (lvl Try.prog HH (n + 0)).2 116 [.s (.one (.v (.int .i64 n5))), .s (.one (.v (.int .i64 2)))] [] outs116 mouts116 fun y6 m7 =>
    some (.s (.one (.v (.int .i64 y6.1))), []) := by kernel_rfl

/-! armplan/interval.Width -/
theorem fn127 (n : Nat) (a1 : Int) (a2 : Int) : (lvl Try.prog HH (n + 1)).2 127 [.s (.agg true [.v (.int .i64 a1), .v (.int .i64 a2)])] [] =
    callT (lvl Try.prog HH (n + 0)).2 48 [.s (.agg true [.v (.int .i64 a1), .v (.int .i64 a2)])] [] outs48 mouts48 fun y3 m4 =>
    bif !y3.1 then (
      some (.s (.one (.v (.int .i64 0))), []))
    else
    letIn (IntKind.wrap .i64 (a2 - a1) : Int) fun n5 =>
    some (.s (.one (.v (.int .i64 n5))), []) := by kernel_rfl

/-! armplan/armplanref1.Width -/
theorem fn128 (n : Nat) (a1 : Int) (a2 : Int) : (lvl Try.prog HH (n + 1)).2 128 [.s (.agg true [.v (.int .i64 a1), .v (.int .i64 a2)])] [] =
    callT (lvl Try.prog HH (n + 0)).2 103 [.s (.agg true [.v (.int .i64 a1), .v (.int .i64 a2)])] [] outs103 mouts103 fun y3 m4 =>
    bif !y3.1 then (
      some (.s (.one (.v (.int .i64 0))), []))
    else
    letIn (IntKind.wrap .i64 (a2 - a1) : Int) fun n5 =>
    some (.s (.one (.v (.int .i64 n5))), []) := by kernel_rfl

/-! armplan/armplanlaw2.sets -/
theorem fn78 (n : Nat) (a1 : Int) (a2 : Int) (b3 : Int) (b4 : Int) (x5 : Int) : (lvl Try.prog HH (n + 1)).2 78 [.s (.agg true [.v (.int .i64 a1), .v (.int .i64 a2)]), .s (.agg true [.v (.int .i64 b3), .v (.int .i64 b4)]), .s (.one (.v (.int .i64 x5)))] [] =
    callT (lvl Try.prog HH (n + 0)).2 49 [.s (.agg true [.v (.int .i64 a1), .v (.int .i64 a2)]), .s (.agg true [.v (.int .i64 b3), .v (.int .i64 b4)])] [] outs49 mouts49 fun y6 m7 =>
    callT (lvl Try.prog HH (n + 0)).2 121 [.s (.agg true [.v (.int .i64 a1), .v (.int .i64 a2)]), .s (.agg true [.v (.int .i64 b3), .v (.int .i64 b4)])] [] outs121 mouts121 fun y8 m9 =>
    callT (lvl Try.prog HH (n + 0)).2 52 [.s (.agg true [.v (.int .i64 a1), .v (.int .i64 a2)]), .s (.agg true [.v (.int .i64 b3), .v (.int .i64 b4)])] [] outs52 mouts52 fun y10 m11 =>
    callT (lvl Try.prog HH (n + 0)).2 122 [.s (.agg true [.v (.int .i64 a1), .v (.int .i64 a2)]), .s (.agg true [.v (.int .i64 b3), .v (.int .i64 b4)])] [] outs122 mouts122 fun y12 m13 =>
    letIn ((y10.1.1 == y12.1.1) && ((y10.1.2.1 == y12.1.2.1) && true) : Bool) fun b14 =>
    bif b14 then (
      letIn ((y6.1.1 == y8.1.1) && ((y6.1.2.1 == y8.1.2.1) && true) : Bool) fun b15 =>
      bif b15 then (
        bif y6.2.1 == y8.2.1 then (
          callT (lvl Try.prog HH (n + 0)).2 50 [.s (.agg true [.v (.int .i64 a1), .v (.int .i64 a2)]), .s (.one (.v (.int .i64 x5)))] [] outs50 mouts50 fun y16 m17 =>
          callT (lvl Try.prog HH (n + 0)).2 123 [.s (.agg true [.v (.int .i64 a1), .v (.int .i64 a2)]), .s (.one (.v (.int .i64 x5)))] [] outs123 mouts123 fun y18 m19 =>
          bif y16.1 == y18.1 then (
            callT (lvl Try.prog HH (n + 0)).2 51 [.s (.agg true [.v (.int .i64 a1), .v (.int .i64 a2)]), .s (.agg true [.v (.int .i64 b3), .v (.int .i64 b4)])] [] outs51 mouts51 fun y20 m21 =>
            callT (lvl Try.prog HH (n + 0)).2 124 [.s (.agg true [.v (.int .i64 a1), .v (.int .i64 a2)]), .s (.agg true [.v (.int .i64 b3), .v (.int .i64 b4)])] [] outs124 mouts124 fun y22 m23 =>
            bif y20.1 == y22.1 then (
              callT (lvl Try.prog HH (n + 0)).2 51 [.s (.agg true [.v (.int .i64 b3), .v (.int .i64 b4)]), .s (.agg true [.v (.int .i64 a1), .v (.int .i64 a2)])] [] outs51 mouts51 fun y24 m25 =>
              callT (lvl Try.prog HH (n + 0)).2 124 [.s (.agg true [.v (.int .i64 b3), .v (.int .i64 b4)]), .s (.agg true [.v (.int .i64 a1), .v (.int .i64 a2)])] [] outs124 mouts124 fun y26 m27 =>
              bif y24.1 == y26.1 then (
                callT (lvl Try.prog HH (n + 0)).2 125 [.s (.agg true [.v (.int .i64 a1), .v (.int .i64 a2)])] [] outs125 mouts125 fun y28 m29 =>
                callT (lvl Try.prog HH (n + 0)).2 126 [.s (.agg true [.v (.int .i64 a1), .v (.int .i64 a2)])] [] outs126 mouts126 fun y30 m31 =>
                bif y28.1 == y30.1 then (
                  callT (lvl Try.prog HH (n + 0)).2 127 [.s (.agg true [.v (.int .i64 a1), .v (.int .i64 a2)])] [] outs127 mouts127 fun y32 m33 =>
                  callT (lvl Try.prog HH (n + 0)).2 128 [.s (.agg true [.v (.int .i64 a1), .v (.int .i64 a2)])] [] outs128 mouts128 fun y34 m35 =>
                  some (.s (.one (.v (.bool (y32.1 == y34.1)))), []))
                else
                some (.s (.one (.v (.bool false))), []))
              else
              some (.s (.one (.v (.bool false))), []))
            else
            some (.s (.one (.v (.bool false))), []))
          else
          some (.s (.one (.v (.bool false))), []))
        else
        some (.s (.one (.v (.bool false))), []))
      else
      some (.s (.one (.v (.bool false))), []))
    else
    some (.s (.one (.v (.bool false))), []) := by kernel_rfl

end Go.Proofs.Ytfpdjpleplhcgaa.Am
