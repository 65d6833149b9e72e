/- PRINTED by amprint.py: what the abstract machine answers, function by function. -/
import Derived.Test.YtanjfmogmlgphaaH
import Derived.KernelRfl
set_option linter.unusedVariables false
set_option maxRecDepth 100000
namespace Go.Proofs.Ytanjfmogmlgphaa.Am
open Go Go.Proofs

/-! (armplan/plane.sides).margin -/
theorem fn34 (n : Nat) (s1 : List (List D1)) (s2 : Int) (s3 : List (List D1)) (s4 : Int) (n5 : Int) (n6 : Int) (n7 : Int) : (lvl Try.prog HH (n + 1)).2 34 [.s (.agg true [.fr 6 s1, .v (.int .i64 s2), .fr 6 s3, .v (.int .i64 s4)]), .s (.agg true [.v (.int .i64 n5), .v (.int .i64 n6), .v (.int .i64 n7)])] [] =
    callT (lvl Try.prog HH (n + 0)).2 43 [.s (.agg true [.v (.int .i64 n5), .v (.int .i64 n6), .v (.int .i64 n7)])] [] outs43 mouts43 fun y8 m9 =>
    bif !y8.1 then (
      some (.tup [.one (.v (.int .i64 0)), .one (.v (.bool false))], []))
    else
    callT (lvl Try.prog HH (n + 0)).2 44 [.s (.agg true [.fr 6 s1, .v (.int .i64 s2)])] [] outs44 mouts44 fun y10 m11 =>
    bif !y10.1 then (
      some (.tup [.one (.v (.int .i64 0)), .one (.v (.bool false))], []))
    else
    callT (lvl Try.prog HH (n + 0)).2 44 [.s (.agg true [.fr 6 s3, .v (.int .i64 s4)])] [] outs44 mouts44 fun y12 m13 =>
    bif !y12.1 then (
      some (.tup [.one (.v (.int .i64 0)), .one (.v (.bool false))], []))
    else
    callT (lvl Try.prog HH (n + 0)).2 45 [.s (.agg true [.v (.int .i64 n5), .v (.int .i64 n6), .v (.int .i64 n7)]), .s (.one (.fr 6 s1))] [] outs45 mouts45 fun y14 m15 =>
    callT (lvl Try.prog HH (n + 0)).2 46 [.s (.agg true [.v (.int .i64 n5), .v (.int .i64 n6), .v (.int .i64 n7)]), .s (.one (.fr 6 s3))] [] outs46 mouts46 fun y16 m17 =>
    letIn (IntKind.wrap .i64 (y14.1 - y16.1) : Int) fun n18 =>
    callT (lvl Try.prog HH (n + 0)).2 47 [.s (.agg true [.v (.int .i64 n5), .v (.int .i64 n6), .v (.int .i64 n7)])] [] outs47 mouts47 fun y19 m20 =>
    letIn (IntKind.wrap .i64 (s2 + s4) : Int) fun n21 =>
    letIn (IntKind.wrap .i64 (y19.1 * n21) : Int) fun n22 =>
    letIn (IntKind.wrap .i64 (n18 - n22) : Int) fun n23 =>
    some (.tup [.one (.v (.int .i64 n23)), .one (.v (.bool true))], []) := by kernel_rfl

/-! armplan/plane.Margin -/
theorem fn16 (n : Nat) (n1 : Int) (n2 : Int) (n3 : Int) (a4 : List (List D1)) (ra5 : Int) (b6 : List (List D1)) (rb7 : Int) : (lvl Try.prog HH (n + 1)).2 16 [.s (.agg true [.v (.int .i64 n1), .v (.int .i64 n2), .v (.int .i64 n3)]), .s (.one (.fr 6 a4)), .s (.one (.v (.int .i64 ra5))), .s (.one (.fr 6 b6)), .s (.one (.v (.int .i64 rb7)))] [] =
    callT (lvl Try.prog HH (n + 0)).2 34 [.s (.agg true [.fr 6 a4, .v (.int .i64 ra5), .fr 6 b6, .v (.int .i64 rb7)]), .s (.agg true [.v (.int .i64 n1), .v (.int .i64 n2), .v (.int .i64 n3)])] [] outs34 mouts34 fun y8 m9 =>
    some (.tup [.one (.v (.int .i64 y8.1)), .one (.v (.bool y8.2.1))], []) := by kernel_rfl

/-! armplan/plane.Separates -/
theorem fn25 (n : Nat) (n1 : Int) (n2 : Int) (n3 : Int) (a4 : List (List D1)) (ra5 : Int) (b6 : List (List D1)) (rb7 : Int) : (lvl Try.prog HH (n + 1)).2 25 [.s (.agg true [.v (.int .i64 n1), .v (.int .i64 n2), .v (.int .i64 n3)]), .s (.one (.fr 6 a4)), .s (.one (.v (.int .i64 ra5))), .s (.one (.fr 6 b6)), .s (.one (.v (.int .i64 rb7)))] [] =
    callT (lvl Try.prog HH (n + 0)).2 16 [.s (.agg true [.v (.int .i64 n1), .v (.int .i64 n2), .v (.int .i64 n3)]), .s (.one (.fr 6 a4)), .s (.one (.v (.int .i64 ra5))), .s (.one (.fr 6 b6)), .s (.one (.v (.int .i64 rb7)))] [] outs16 mouts16 fun y8 m9 =>
    bif y8.2.1 then (
      some (.s (.one (.v (.bool (decide (y8.1 > 0))))), []))
    else
    some (.s (.one (.v (.bool false))), []) := by kernel_rfl

/-! armplan/armplanlaw15.awake -/
theorem fn13 (n : Nat)  : (lvl Try.prog HH (n + 1)).2 13 [] [] =
    callT (lvl Try.prog HH (n + 0)).2 16 [.s (.agg true [.v (.int .i64 1), .v (.int .i64 0), .v (.int .i64 0)]), .s (.one (.fr 6 [[.v (.int .i64 10), .v (.int .i64 12), .v (.int .i64 0), .v (.int .i64 0), .v (.int .i64 0), .v (.int .i64 0)]])), .s (.one (.v (.int .i64 2))), .s (.one (.fr 6 [[.v (.int .i64 3), .v (.int .i64 5), .v (.int .i64 0), .v (.int .i64 0), .v (.int .i64 0), .v (.int .i64 0)]])), .s (.one (.v (.int .i64 2)))] [] outs16 mouts16 fun y1 m2 =>
    bif y1.2.1 then (
      bif y1.1 == 1 then (
        callT (lvl Try.prog HH (n + 0)).2 25 [.s (.agg true [.v (.int .i64 1), .v (.int .i64 0), .v (.int .i64 0)]), .s (.one (.fr 6 [[.v (.int .i64 10), .v (.int .i64 12), .v (.int .i64 0), .v (.int .i64 0), .v (.int .i64 0), .v (.int .i64 0)]])), .s (.one (.v (.int .i64 2))), .s (.one (.fr 6 [[.v (.int .i64 3), .v (.int .i64 5), .v (.int .i64 0), .v (.int .i64 0), .v (.int .i64 0), .v (.int .i64 0)]])), .s (.one (.v (.int .i64 2)))] [] outs25 mouts25 fun y3 m4 =>
        bif y3.1 then (
          callT (lvl Try.prog HH (n + 0)).2 25 [.s (.agg true [.v (.int .i64 1), .v (.int .i64 0), .v (.int .i64 0)]), .s (.one (.fr 6 [[.v (.int .i64 10), .v (.int .i64 12), .v (.int .i64 0), .v (.int .i64 0), .v (.int .i64 0), .v (.int .i64 0)]])), .s (.one (.v (.int .i64 3))), .s (.one (.fr 6 [[.v (.int .i64 3), .v (.int .i64 5), .v (.int .i64 0), .v (.int .i64 0), .v (.int .i64 0), .v (.int .i64 0)]])), .s (.one (.v (.int .i64 2)))] [] outs25 mouts25 fun y5 m6 =>
          some (.s (.one (.v (.bool (!y5.1)))), []))
        else
        some (.s (.one (.v (.bool false))), []))
      else
      some (.s (.one (.v (.bool false))), []))
    else
    some (.s (.one (.v (.bool false))), []) := by kernel_rfl

/-! armplan/armplanref1.Root -/
theorem loop51_0 (n : Nat) (v2 : Int) (v3 : Int) (v4 : Int) : (lvl Try.prog HH (n + 1)).1 ⟨51, 0, true⟩ 0 (loopOf Try.f51 0) (encSt S51_0 ((v2, v3, v4, ()), ())) =
    letIn (IntKind.wrap .i64 (v4 - v3) : Int) fun n5 =>
    bif decide (n5 > 1) then (
      letIn (IntKind.wrap .i64 (v4 - v3) : Int) fun n6 =>
      letIn (IntKind.wrap .i64 (Int.tdiv n6 2) : Int) fun n7 =>
      letIn (IntKind.wrap .i64 (v3 + n7) : Int) fun n8 =>
      bif n8 == 0 then (
        none)
      else
      letIn (IntKind.wrap .i64 (Int.tdiv v2 n8) : Int) fun n9 =>
      bif decide (n8 ≤ n9) then (
        (lvl Try.prog HH (n + 0)).1 ⟨51, 0, true⟩ 0 (loopOf Try.f51 0) (encSt S51_0 ((v2, n8, v4, ()), ())))
      else
      (lvl Try.prog HH (n + 0)).1 ⟨51, 0, true⟩ 0 (loopOf Try.f51 0) (encSt S51_0 ((v2, v3, n8, ()), ())))
    else
    some (.exit 0, encSt S51_0_e0 ((v3, ()), ())) := by kernel_rfl

theorem fn51 (n : Nat) (n1 : Int) : (lvl Try.prog HH (n + 1)).2 51 [.s (.one (.v (.int .i64 n1)))] [] =
    bif decide (n1 < 1) then (
      some (.s (.one (.v (.int .i64 0))), []))
    else
    ((lvl Try.prog HH (n + 0)).1 ⟨51, 0, true⟩ 0 (loopOf Try.f51 0) (encSt S51_0 ((n1, 1, 4294967296, ()), ()))).bind fun p10 =>
    bif sameEx (.exit 0) p10.1 then (decSt S51_0_e0 p10.2 fun x11 =>
      some (.s (.one (.v (.int .i64 x11.1.1))), []))
    else
    none := by kernel_rfl

/-! armplan/armplanref1.RootUp -/
theorem fn38 (n : Nat) (n1 : Int) : (lvl Try.prog HH (n + 1)).2 38 [.s (.one (.v (.int .i64 n1)))] [] =
    callT (lvl Try.prog HH (n + 0)).2 51 [.s (.one (.v (.int .i64 n1)))] [] outs51 mouts51 fun y2 m3 =>
    bif decide (n1 > 0) then (
      letIn (IntKind.wrap .i64 (y2.1 * y2.1) : Int) fun n4 =>
      bif decide (n4 < n1) then (
        letIn (IntKind.wrap .i64 (y2.1 + 1) : Int) fun n5 =>
        some (.s (.one (.v (.int .i64 n5))), []))
      else
      some (.s (.one (.v (.int .i64 y2.1))), []))
    else
    some (.s (.one (.v (.int .i64 y2.1))), []) := by kernel_rfl

/-! armplan/armplanref10.Norm -/
theorem fn21 (n : Nat) (n1 : Int) (n2 : Int) (n3 : Int) : (lvl Try.prog HH (n + 1)).2 21 [.s (.agg true [.v (.int .i64 n1), .v (.int .i64 n2), .v (.int .i64 n3)])] [] =
    callT (lvl Try.prog HH (n + 0)).2 31 [.s (.agg true [.v (.int .i64 n1), .v (.int .i64 n2), .v (.int .i64 n3)])] [] outs31 mouts31 fun y4 m5 =>
    bif !y4.1 then (
      some (.s (.one (.v (.int .i64 0))), []))
    else
    letIn (IntKind.wrap .i64 (n1 * n1) : Int) fun n6 =>
    letIn (IntKind.wrap .i64 (n2 * n2) : Int) fun n7 =>
    letIn (IntKind.wrap .i64 (n6 + n7) : Int) fun n8 =>
    letIn (IntKind.wrap .i64 (n3 * n3) : Int) fun n9 =>
    letIn (IntKind.wrap .i64 (n8 + n9) : Int) fun n10 =>
    callT (lvl Try.prog HH (n + 0)).2 38 [.s (.one (.v (.int .i64 n10)))] [] outs38 mouts38 fun y11 m12 =>
    some (.s (.one (.v (.int .i64 y11.1))), []) := by kernel_rfl

/-! armplan/armplanlaw15.PlaneRadius -/
theorem fn7 (n : Nat) (l1 : List (List D1)) (m2 : List (List D1)) (x3 : Int) (y4 : Int) (z5 : Int) (p6 : Int) (q7 : Int) (more8 : Int) : (lvl Try.prog HH (n + 1)).2 7 [.s (.one (.fr 1 l1)), .s (.one (.fr 1 m2)), .s (.one (.v (.int .i64 x3))), .s (.one (.v (.int .i64 y4))), .s (.one (.v (.int .i64 z5))), .s (.one (.v (.int .i64 p6))), .s (.one (.v (.int .i64 q7))), .s (.one (.v (.int .i64 more8)))] [] =
    callT (lvl Try.prog HH (n + 0)).2 11 [.s (.one (.fr 1 l1)), .s (.one (.v (.int .i64 3000)))] [] outs11 mouts11 fun y9 m10 =>
    callT (lvl Try.prog HH (n + 0)).2 11 [.s (.one (.fr 1 m2)), .s (.one (.v (.int .i64 3000)))] [] outs11 mouts11 fun y11 m12 =>
    callT (lvl Try.prog HH (n + 0)).2 12 [.s (.one (.v (.int .i64 x3))), .s (.one (.v (.int .i64 y4))), .s (.one (.v (.int .i64 z5)))] [] outs12 mouts12 fun y13 m14 =>
    callT (lvl Try.prog HH (n + 0)).2 15 [.s (.one (.v (.int .i64 p6)))] [] outs15 mouts15 fun y15 m16 =>
    callT (lvl Try.prog HH (n + 0)).2 15 [.s (.one (.v (.int .i64 q7)))] [] outs15 mouts15 fun y17 m18 =>
    letIn (IntKind.wrap .i64 (1048576 - y15.1) : Int) fun n19 =>
    letIn (IntKind.wrap .i64 (n19 + 1) : Int) fun n20 =>
    callT (lvl Try.prog HH (n + 0)).2 20 [.s (.one (.v (.int .i64 more8))), .s (.one (.v (.int .i64 n20)))] [] outs20 mouts20 fun y21 m22 =>
    callT (lvl Try.prog HH (n + 0)).2 16 [.s (.agg true [.v (.int .i64 y13.1.1), .v (.int .i64 y13.1.2.1), .v (.int .i64 y13.1.2.2.1)]), .s (.one (.fr 6 y9.1)), .s (.one (.v (.int .i64 y15.1))), .s (.one (.fr 6 y11.1)), .s (.one (.v (.int .i64 y17.1)))] [] outs16 mouts16 fun y23 m24 =>
    letIn (IntKind.wrap .i64 (y15.1 + y21.1) : Int) fun n25 =>
    callT (lvl Try.prog HH (n + 0)).2 16 [.s (.agg true [.v (.int .i64 y13.1.1), .v (.int .i64 y13.1.2.1), .v (.int .i64 y13.1.2.2.1)]), .s (.one (.fr 6 y9.1)), .s (.one (.v (.int .i64 n25))), .s (.one (.fr 6 y11.1)), .s (.one (.v (.int .i64 y17.1)))] [] outs16 mouts16 fun y26 m27 =>
    callT (lvl Try.prog HH (n + 0)).2 13 [] [] outs13 mouts13 fun y28 m29 =>
    bif y28.1 then (
      bif y23.2.1 then (
        bif y26.2.1 then (
          letIn (IntKind.wrap .i64 (y23.1 - y26.1) : Int) fun n30 =>
          callT (lvl Try.prog HH (n + 0)).2 21 [.s (.agg true [.v (.int .i64 y13.1.1), .v (.int .i64 y13.1.2.1), .v (.int .i64 y13.1.2.2.1)])] [] outs21 mouts21 fun y31 m32 =>
          letIn (IntKind.wrap .i64 (y31.1 * y21.1) : Int) fun n33 =>
          some (.s (.one (.v (.bool (n30 == n33)))), []))
        else
        some (.s (.one (.v (.bool false))), []))
      else
      some (.s (.one (.v (.bool false))), []))
    else
    some (.s (.one (.v (.bool false))), []) := by kernel_rfl

end Go.Proofs.Ytanjfmogmlgphaa.Am
