/- PRINTED by amprint.py: what the abstract machine answers, function by function. -/
import Derived.Test.YtanjfmogmlgphaaH
import Derived.KernelRfl
set_option linter.unusedVariables false
set_option maxRecDepth 100000
namespace Go.Proofs.Ytanjfmogmlgphaa.Am
open Go Go.Proofs

/-! armplan/support.Norm -/
theorem fn47 (n : Nat) (n1 : Int) (n2 : Int) (n3 : Int) : (lvl Try.prog HH (n + 1)).2 47 [.s (.agg true [.v (.int .i64 n1), .v (.int .i64 n2), .v (.int .i64 n3)])] [] =
    callT (lvl Try.prog HH (n + 0)).2 43 [.s (.agg true [.v (.int .i64 n1), .v (.int .i64 n2), .v (.int .i64 n3)])] [] outs43 mouts43 fun y4 m5 =>
    bif !y4.1 then (
      some (.s (.one (.v (.int .i64 0))), []))
    else
    letIn (IntKind.wrap .i64 (n1 * n1) : Int) fun n6 =>
    letIn (IntKind.wrap .i64 (n2 * n2) : Int) fun n7 =>
    letIn (IntKind.wrap .i64 (n6 + n7) : Int) fun n8 =>
    letIn (IntKind.wrap .i64 (n3 * n3) : Int) fun n9 =>
    letIn (IntKind.wrap .i64 (n8 + n9) : Int) fun n10 =>
    callT (lvl Try.prog HH (n + 0)).2 62 [.s (.one (.v (.int .i64 n10)))] [] outs62 mouts62 fun y11 m12 =>
    some (.s (.one (.v (.int .i64 y11.1))), []) := by kernel_rfl

/-! (armplan/plane.sides).margin -/
theorem fn34 (n : Nat) (s1 : List (List D1)) (s2 : Int) (s3 : List (List D1)) (s4 : Int) (n5 : Int) (n6 : Int) (n7 : Int) : (lvl Try.prog HH (n + 1)).2 34 [.s (.agg true [.fr 6 s1, .v (.int .i64 s2), .fr 6 s3, .v (.int .i64 s4)]), .s (.agg true [.v (.int .i64 n5), .v (.int .i64 n6), .v (.int .i64 n7)])] [] =
    callT (lvl Try.prog HH (n + 0)).2 43 [.s (.agg true [.v (.int .i64 n5), .v (.int .i64 n6), .v (.int .i64 n7)])] [] outs43 mouts43 fun y8 m9 =>
    bif !y8.1 then (
      some (.tup [.one (.v (.int .i64 0)), .one (.v (.bool false))], []))
    else
    callT (lvl Try.prog HH (n + 0)).2 44 [.s (.agg true [.fr 6 s1, .v (.int .i64 s2)])] [] outs44 mouts44 fun y10 m11 =>
    bif !y10.1 then (
      some (.tup [.one (.v (.int .i64 0)), .one (.v (.bool false))], []))
    else
    callT (lvl Try.prog HH (n + 0)).2 44 [.s (.agg true [.fr 6 s3, .v (.int .i64 s4)])] [] outs44 mouts44 fun y12 m13 =>
    bif !y12.1 then (
      some (.tup [.one (.v (.int .i64 0)), .one (.v (.bool false))], []))
    else
    callT (lvl Try.prog HH (n + 0)).2 45 [.s (.agg true [.v (.int .i64 n5), .v (.int .i64 n6), .v (.int .i64 n7)]), .s (.one (.fr 6 s1))] [] outs45 mouts45 fun y14 m15 =>
    callT (lvl Try.prog HH (n + 0)).2 46 [.s (.agg true [.v (.int .i64 n5), .v (.int .i64 n6), .v (.int .i64 n7)]), .s (.one (.fr 6 s3))] [] outs46 mouts46 fun y16 m17 =>
    letIn (IntKind.wrap .i64 (y14.1 - y16.1) : Int) fun n18 =>
    callT (lvl Try.prog HH (n + 0)).2 47 [.s (.agg true [.v (.int .i64 n5), .v (.int .i64 n6), .v (.int .i64 n7)])] [] outs47 mouts47 fun y19 m20 =>
    letIn (IntKind.wrap .i64 (s2 + s4) : Int) fun n21 =>
    letIn (IntKind.wrap .i64 (y19.1 * n21) : Int) fun n22 =>
    letIn (IntKind.wrap .i64 (n18 - n22) : Int) fun n23 =>
    some (.tup [.one (.v (.int .i64 n23)), .one (.v (.bool true))], []) := by kernel_rfl

/-! armplan/plane.Margin -/
theorem fn16 (n : Nat) (n1 : Int) (n2 : Int) (n3 : Int) (a4 : List (List D1)) (ra5 : Int) (b6 : List (List D1)) (rb7 : Int) : (lvl Try.prog HH (n + 1)).2 16 [.s (.agg true [.v (.int .i64 n1), .v (.int .i64 n2), .v (.int .i64 n3)]), .s (.one (.fr 6 a4)), .s (.one (.v (.int .i64 ra5))), .s (.one (.fr 6 b6)), .s (.one (.v (.int .i64 rb7)))] [] =
    callT (lvl Try.prog HH (n + 0)).2 34 [.s (.agg true [.fr 6 a4, .v (.int .i64 ra5), .fr 6 b6, .v (.int .i64 rb7)]), .s (.agg true [.v (.int .i64 n1), .v (.int .i64 n2), .v (.int .i64 n3)])] [] outs34 mouts34 fun y8 m9 =>
    some (.tup [.one (.v (.int .i64 y8.1)), .one (.v (.bool y8.2.1))], []) := by kernel_rfl

/-! armplan/plane.Separates -/
theorem fn25 (n : Nat) (n1 : Int) (n2 : Int) (n3 : Int) (a4 : List (List D1)) (ra5 : Int) (b6 : List (List D1)) (rb7 : Int) : (lvl Try.prog HH (n + 1)).2 25 [.s (.agg true [.v (.int .i64 n1), .v (.int .i64 n2), .v (.int .i64 n3)]), .s (.one (.fr 6 a4)), .s (.one (.v (.int .i64 ra5))), .s (.one (.fr 6 b6)), .s (.one (.v (.int .i64 rb7)))] [] =
    callT (lvl Try.prog HH (n + 0)).2 16 [.s (.agg true [.v (.int .i64 n1), .v (.int .i64 n2), .v (.int .i64 n3)]), .s (.one (.fr 6 a4)), .s (.one (.v (.int .i64 ra5))), .s (.one (.fr 6 b6)), .s (.one (.v (.int .i64 rb7)))] [] outs16 mouts16 fun y8 m9 =>
    bif y8.2.1 then (
      some (.s (.one (.v (.bool (decide (y8.1 > 0))))), []))
    else
    some (.s (.one (.v (.bool false))), []) := by kernel_rfl

/-! armplan/armplanlaw15.awake -/
theorem fn13 (n : Nat)  : (lvl Try.prog HH (n + 1)).2 13 [] [] =
    callT (lvl Try.prog HH (n + 0)).2 16 [.s (.agg true [.v (.int .i64 1), .v (.int .i64 0), .v (.int .i64 0)]), .s (.one (.fr 6 [[.v (.int .i64 10), .v (.int .i64 12), .v (.int .i64 0), .v (.int .i64 0), .v (.int .i64 0), .v (.int .i64 0)]])), .s (.one (.v (.int .i64 2))), .s (.one (.fr 6 [[.v (.int .i64 3), .v (.int .i64 5), .v (.int .i64 0), .v (.int .i64 0), .v (.int .i64 0), .v (.int .i64 0)]])), .s (.one (.v (.int .i64 2)))] [] outs16 mouts16 fun y1 m2 =>
    bif y1.2.1 then (
      bif y1.1 == 1 then (
        callT (lvl Try.prog HH (n + 0)).2 25 [.s (.agg true [.v (.int .i64 1), .v (.int .i64 0), .v (.int .i64 0)]), .s (.one (.fr 6 [[.v (.int .i64 10), .v (.int .i64 12), .v (.int .i64 0), .v (.int .i64 0), .v (.int .i64 0), .v (.int .i64 0)]])), .s (.one (.v (.int .i64 2))), .s (.one (.fr 6 [[.v (.int .i64 3), .v (.int .i64 5), .v (.int .i64 0), .v (.int .i64 0), .v (.int .i64 0), .v (.int .i64 0)]])), .s (.one (.v (.int .i64 2)))] [] outs25 mouts25 fun y3 m4 =>
        bif y3.1 then (
          callT (lvl Try.prog HH (n + 0)).2 25 [.s (.agg true [.v (.int .i64 1), .v (.int .i64 0), .v (.int .i64 0)]), .s (.one (.fr 6 [[.v (.int .i64 10), .v (.int .i64 12), .v (.int .i64 0), .v (.int .i64 0), .v (.int .i64 0), .v (.int .i64 0)]])), .s (.one (.v (.int .i64 3))), .s (.one (.fr 6 [[.v (.int .i64 3), .v (.int .i64 5), .v (.int .i64 0), .v (.int .i64 0), .v (.int .i64 0), .v (.int .i64 0)]])), .s (.one (.v (.int .i64 2)))] [] outs25 mouts25 fun y5 m6 =>
          some (.s (.one (.v (.bool (!y5.1)))), []))
        else
        some (.s (.one (.v (.bool false))), []))
      else
      some (.s (.one (.v (.bool false))), []))
    else
    some (.s (.one (.v (.bool false))), []) := by kernel_rfl

/-! armplan/armplanlaw15.PlaneNever -/
theorem fn9 (n : Nat) (l1 : List (List D1)) (m2 : List (List D1)) (at3 : Int) (x4 : Int) (y5 : Int) (z6 : Int) (p7 : Int) (q8 : Int) : (lvl Try.prog HH (n + 1)).2 9 [.s (.one (.fr 1 l1)), .s (.one (.fr 1 m2)), .s (.one (.v (.int .i64 at3))), .s (.one (.v (.int .i64 x4))), .s (.one (.v (.int .i64 y5))), .s (.one (.v (.int .i64 z6))), .s (.one (.v (.int .i64 p7))), .s (.one (.v (.int .i64 q8)))] [] =
    callT (lvl Try.prog HH (n + 0)).2 11 [.s (.one (.fr 1 l1)), .s (.one (.v (.int .i64 0)))] [] outs11 mouts11 fun y9 m10 =>
    callT (lvl Try.prog HH (n + 0)).2 12 [.s (.one (.v (.int .i64 x4))), .s (.one (.v (.int .i64 y5))), .s (.one (.v (.int .i64 z6)))] [] outs12 mouts12 fun y11 m12 =>
    callT (lvl Try.prog HH (n + 0)).2 11 [.s (.one (.fr 1 m2)), .s (.one (.v (.int .i64 0)))] [] outs11 mouts11 fun y13 m14 =>
    callT (lvl Try.prog HH (n + 0)).2 20 [.s (.one (.v (.int .i64 at3))), .s (.one (.v (.int .i64 (((m10.1.length : Nat) : Int)))))] [] outs20 mouts20 fun y15 m16 =>
    bif decide (0 ≤ y15.1) then (
      (nth m10.1 y15.1.toNat).bind fun cs17 =>
      (nth m10.1 y15.1.toNat).bind fun cs18 =>
      bif Nat.beq ((cs18.drop 0).take 6).length 6 then (
        decCts [.int .i64, .int .i64, .int .i64, .int .i64, .int .i64, .int .i64] ((cs18.drop 0).take 6) fun c19 =>
        bif decide ((m14.1.length + 1) * 48 ≤ 140737488355328) then (
          callT (lvl Try.prog HH (n + 0)).2 15 [.s (.one (.v (.int .i64 p7)))] [] outs15 mouts15 fun y20 m21 =>
          callT (lvl Try.prog HH (n + 0)).2 15 [.s (.one (.v (.int .i64 q8)))] [] outs15 mouts15 fun y22 m23 =>
          callT (lvl Try.prog HH (n + 0)).2 16 [.s (.agg true [.v (.int .i64 y11.1.1), .v (.int .i64 y11.1.2.1), .v (.int .i64 y11.1.2.2.1)]), .s (.one (.fr 6 m10.1)), .s (.one (.v (.int .i64 y20.1))), .s (.one (.fr 6 (m14.1 ++ ([[.v (.int .i64 c19.1), .v (.int .i64 c19.2.1), .v (.int .i64 c19.2.2.1), .v (.int .i64 c19.2.2.2.1), .v (.int .i64 c19.2.2.2.2.1), .v (.int .i64 c19.2.2.2.2.2.1)]] : List (List D1))))), .s (.one (.v (.int .i64 y22.1)))] [] outs16 mouts16 fun y24 m25 =>
          callT (lvl Try.prog HH (n + 0)).2 13 [] [] outs13 mouts13 fun y26 m27 =>
          bif y26.1 then (
            bif y24.2.1 then (
              bif decide (y24.1 ≤ 0) then (
                callT (lvl Try.prog HH (n + 0)).2 15 [.s (.one (.v (.int .i64 p7)))] [] outs15 mouts15 fun y28 m29 =>
                callT (lvl Try.prog HH (n + 0)).2 15 [.s (.one (.v (.int .i64 q8)))] [] outs15 mouts15 fun y30 m31 =>
                callT (lvl Try.prog HH (n + 0)).2 25 [.s (.agg true [.v (.int .i64 y11.1.1), .v (.int .i64 y11.1.2.1), .v (.int .i64 y11.1.2.2.1)]), .s (.one (.fr 6 m10.1)), .s (.one (.v (.int .i64 y28.1))), .s (.one (.fr 6 (m14.1 ++ ([[.v (.int .i64 c19.1), .v (.int .i64 c19.2.1), .v (.int .i64 c19.2.2.1), .v (.int .i64 c19.2.2.2.1), .v (.int .i64 c19.2.2.2.2.1), .v (.int .i64 c19.2.2.2.2.2.1)]] : List (List D1))))), .s (.one (.v (.int .i64 y30.1)))] [] outs25 mouts25 fun y32 m33 =>
                bif !y32.1 then (
                  callT (lvl Try.prog HH (n + 0)).2 15 [.s (.one (.v (.int .i64 q8)))] [] outs15 mouts15 fun y34 m35 =>
                  callT (lvl Try.prog HH (n + 0)).2 15 [.s (.one (.v (.int .i64 p7)))] [] outs15 mouts15 fun y36 m37 =>
                  callT (lvl Try.prog HH (n + 0)).2 25 [.s (.agg true [.v (.int .i64 y11.1.1), .v (.int .i64 y11.1.2.1), .v (.int .i64 y11.1.2.2.1)]), .s (.one (.fr 6 (m14.1 ++ ([[.v (.int .i64 c19.1), .v (.int .i64 c19.2.1), .v (.int .i64 c19.2.2.1), .v (.int .i64 c19.2.2.2.1), .v (.int .i64 c19.2.2.2.2.1), .v (.int .i64 c19.2.2.2.2.2.1)]] : List (List D1))))), .s (.one (.v (.int .i64 y34.1))), .s (.one (.fr 6 m10.1)), .s (.one (.v (.int .i64 y36.1)))] [] outs25 mouts25 fun y38 m39 =>
                  some (.s (.one (.v (.bool (!y38.1)))), []))
                else
                some (.s (.one (.v (.bool false))), []))
              else
              some (.s (.one (.v (.bool false))), []))
            else
            some (.s (.one (.v (.bool false))), []))
          else
          some (.s (.one (.v (.bool false))), []))
        else
        none)
      else
      none)
    else
    none := by kernel_rfl

end Go.Proofs.Ytanjfmogmlgphaa.Am
