/- PRINTED by amprint.py: what the abstract machine answers, function by function. -/
import Derived.Test.YtanjfmogmlgphaaH
import Derived.KernelRfl
set_option linter.unusedVariables false
set_option maxRecDepth 100000
namespace Go.Proofs.Ytanjfmogmlgphaa.Am
open Go Go.Proofs

/-! armplan/plane.Margin -/
theorem fn16 (n : Nat) (n1 : Int) (n2 : Int) (n3 : Int) (a4 : List (List D1)) (ra5 : Int) (b6 : List (List D1)) (rb7 : Int) : (lvl Try.prog HH (n + 1)).2 16 [.s (.agg true [.v (.int .i64 n1), .v (.int .i64 n2), .v (.int .i64 n3)]), .s (.one (.fr 6 a4)), .s (.one (.v (.int .i64 ra5))), .s (.one (.fr 6 b6)), .s (.one (.v (.int .i64 rb7)))] [] =
    callT (lvl Try.prog HH (n + 0)).2 34 [.s (.agg true [.fr 6 a4, .v (.int .i64 ra5), .fr 6 b6, .v (.int .i64 rb7)]), .s (.agg true [.v (.int .i64 n1), .v (.int .i64 n2), .v (.int .i64 n3)])] [] outs34 mouts34 fun y8 m9 =>
    some (.tup [.one (.v (.int .i64 y8.1)), .one (.v (.bool y8.2.1))], []) := by kernel_rfl

/-! armplan/armplanlaw15.value -/
theorem loop23_0 (n : Nat) (v6 : List (List D1)) (v7 : List (List D1)) (v8 : Int) (v9 : Int) (c10 : Int) (c11 : Int) (c12 : Int) : (lvl Try.prog HH (n + 1)).1 ⟨23, 0, true⟩ 0 (loopOf Try.f23 0) (encSt S23_0 ((v6, v7, (), v8, v9, ()), ((c10, c11, c12, ()), ()))) =
    bif decide (v9 < (((v6.length : Nat) : Int))) then (
      bif decide (0 ≤ v9) then (
        (nth v7 v9.toNat).bind fun cs13 =>
        (nth cs13 0).bind fun d14 =>
        (asInt? .i64 d14).bind fun n15 =>
        bif decide (0 ≤ v9) then (
          (nth v6 v9.toNat).bind fun cs16 =>
          (nth ((cs16.drop 0).drop 0) 0).bind fun d17 =>
          (asInt? .i64 d17).bind fun n18 =>
          letIn (IntKind.wrap .i64 (c10 * n18) : Int) fun n19 =>
          bif decide (0 ≤ v9) then (
            (nth v6 v9.toNat).bind fun cs20 =>
            (nth ((cs20.drop 2).drop 0) 0).bind fun d21 =>
            (asInt? .i64 d21).bind fun n22 =>
            letIn (IntKind.wrap .i64 (c11 * n22) : Int) fun n23 =>
            letIn (IntKind.wrap .i64 (n19 + n23) : Int) fun n24 =>
            bif decide (0 ≤ v9) then (
              (nth v6 v9.toNat).bind fun cs25 =>
              (nth ((cs25.drop 4).drop 0) 0).bind fun d26 =>
              (asInt? .i64 d26).bind fun n27 =>
              letIn (IntKind.wrap .i64 (c12 * n27) : Int) fun n28 =>
              letIn (IntKind.wrap .i64 (n24 + n28) : Int) fun n29 =>
              letIn (IntKind.wrap .i64 (n15 * n29) : Int) fun n30 =>
              letIn (IntKind.wrap .i64 (v8 + n30) : Int) fun n31 =>
              letIn (IntKind.wrap .i64 (v9 + 1) : Int) fun n32 =>
              (lvl Try.prog HH (n + 0)).1 ⟨23, 0, true⟩ 0 (loopOf Try.f23 0) (encSt S23_0 ((v6, v7, (), n31, n32, ()), ((c10, c11, c12, ()), ()))))
            else
            none)
          else
          none)
        else
        none)
      else
      none)
    else
    some (.exit 0, encSt S23_0_e0 ((v8, ()), ())) := by kernel_rfl

theorem fn23 (n : Nat) (n1 : Int) (n2 : Int) (n3 : Int) (l4 : List (List D1)) (w5 : List (List D1)) : (lvl Try.prog HH (n + 1)).2 23 [.s (.agg true [.v (.int .i64 n1), .v (.int .i64 n2), .v (.int .i64 n3)]), .s (.one (.fr 6 l4)), .s (.one (.fr 1 w5))] [] =
    ((lvl Try.prog HH (n + 0)).1 ⟨23, 0, true⟩ 0 (loopOf Try.f23 0) (encSt S23_0 ((l4, w5, (), 0, 0, ()), ((n1, n2, n3, ()), ())))).bind fun p33 =>
    bif sameEx (.exit 0) p33.1 then (decSt S23_0_e0 p33.2 fun x34 =>
      some (.s (.one (.v (.int .i64 x34.1.1))), []))
    else
    none := by kernel_rfl

/-! armplan/armplanmake.Total -/
theorem loop24_0 (n : Nat) (v2 : List (List D1)) (v3 : Int) (v4 : Int) : (lvl Try.prog HH (n + 1)).1 ⟨24, 0, true⟩ 0 (loopOf Try.f24 0) (encSt S24_0 ((v2, v3, v4, ()), ())) =
    bif decide (v4 < (((v2.length : Nat) : Int))) then (
      bif decide (0 ≤ v4) then (
        (nth v2 v4.toNat).bind fun cs5 =>
        (nth cs5 0).bind fun d6 =>
        (asInt? .i64 d6).bind fun n7 =>
        letIn (IntKind.wrap .i64 (v3 + n7) : Int) fun n8 =>
        letIn (IntKind.wrap .i64 (v4 + 1) : Int) fun n9 =>
        (lvl Try.prog HH (n + 0)).1 ⟨24, 0, true⟩ 0 (loopOf Try.f24 0) (encSt S24_0 ((v2, n8, n9, ()), ())))
      else
      none)
    else
    some (.exit 0, encSt S24_0_e0 ((v3, ()), ())) := by kernel_rfl

theorem fn24 (n : Nat) (l1 : List (List D1)) : (lvl Try.prog HH (n + 1)).2 24 [.s (.one (.fr 1 l1))] [] =
    ((lvl Try.prog HH (n + 0)).1 ⟨24, 0, true⟩ 0 (loopOf Try.f24 0) (encSt S24_0 ((l1, 0, 0, ()), ()))).bind fun p10 =>
    bif sameEx (.exit 0) p10.1 then (decSt S24_0_e0 p10.2 fun x11 =>
      some (.s (.one (.v (.int .i64 x11.1.1))), []))
    else
    none := by kernel_rfl

/-! armplan/plane.Separates -/
theorem fn25 (n : Nat) (n1 : Int) (n2 : Int) (n3 : Int) (a4 : List (List D1)) (ra5 : Int) (b6 : List (List D1)) (rb7 : Int) : (lvl Try.prog HH (n + 1)).2 25 [.s (.agg true [.v (.int .i64 n1), .v (.int .i64 n2), .v (.int .i64 n3)]), .s (.one (.fr 6 a4)), .s (.one (.v (.int .i64 ra5))), .s (.one (.fr 6 b6)), .s (.one (.v (.int .i64 rb7)))] [] =
    callT (lvl Try.prog HH (n + 0)).2 16 [.s (.agg true [.v (.int .i64 n1), .v (.int .i64 n2), .v (.int .i64 n3)]), .s (.one (.fr 6 a4)), .s (.one (.v (.int .i64 ra5))), .s (.one (.fr 6 b6)), .s (.one (.v (.int .i64 rb7)))] [] outs16 mouts16 fun y8 m9 =>
    bif y8.2.1 then (
      some (.s (.one (.v (.bool (decide (y8.1 > 0))))), []))
    else
    some (.s (.one (.v (.bool false))), []) := by kernel_rfl

/-! armplan/armplanlaw15.awake -/
theorem fn13 (n : Nat)  : (lvl Try.prog HH (n + 1)).2 13 [] [] =
    callT (lvl Try.prog HH (n + 0)).2 16 [.s (.agg true [.v (.int .i64 1), .v (.int .i64 0), .v (.int .i64 0)]), .s (.one (.fr 6 [[.v (.int .i64 10), .v (.int .i64 12), .v (.int .i64 0), .v (.int .i64 0), .v (.int .i64 0), .v (.int .i64 0)]])), .s (.one (.v (.int .i64 2))), .s (.one (.fr 6 [[.v (.int .i64 3), .v (.int .i64 5), .v (.int .i64 0), .v (.int .i64 0), .v (.int .i64 0), .v (.int .i64 0)]])), .s (.one (.v (.int .i64 2)))] [] outs16 mouts16 fun y1 m2 =>
    bif y1.2.1 then (
      bif y1.1 == 1 then (
        callT (lvl Try.prog HH (n + 0)).2 25 [.s (.agg true [.v (.int .i64 1), .v (.int .i64 0), .v (.int .i64 0)]), .s (.one (.fr 6 [[.v (.int .i64 10), .v (.int .i64 12), .v (.int .i64 0), .v (.int .i64 0), .v (.int .i64 0), .v (.int .i64 0)]])), .s (.one (.v (.int .i64 2))), .s (.one (.fr 6 [[.v (.int .i64 3), .v (.int .i64 5), .v (.int .i64 0), .v (.int .i64 0), .v (.int .i64 0), .v (.int .i64 0)]])), .s (.one (.v (.int .i64 2)))] [] outs25 mouts25 fun y3 m4 =>
        bif y3.1 then (
          callT (lvl Try.prog HH (n + 0)).2 25 [.s (.agg true [.v (.int .i64 1), .v (.int .i64 0), .v (.int .i64 0)]), .s (.one (.fr 6 [[.v (.int .i64 10), .v (.int .i64 12), .v (.int .i64 0), .v (.int .i64 0), .v (.int .i64 0), .v (.int .i64 0)]])), .s (.one (.v (.int .i64 3))), .s (.one (.fr 6 [[.v (.int .i64 3), .v (.int .i64 5), .v (.int .i64 0), .v (.int .i64 0), .v (.int .i64 0), .v (.int .i64 0)]])), .s (.one (.v (.int .i64 2)))] [] outs25 mouts25 fun y5 m6 =>
          some (.s (.one (.v (.bool (!y5.1)))), []))
        else
        some (.s (.one (.v (.bool false))), []))
      else
      some (.s (.one (.v (.bool false))), []))
    else
    some (.s (.one (.v (.bool false))), []) := by kernel_rfl

/-! armplan/armplanref1.Root -/
theorem loop51_0 (n : Nat) (v2 : Int) (v3 : Int) (v4 : Int) : (lvl Try.prog HH (n + 1)).1 ⟨51, 0, true⟩ 0 (loopOf Try.f51 0) (encSt S51_0 ((v2, v3, v4, ()), ())) =
    letIn (IntKind.wrap .i64 (v4 - v3) : Int) fun n5 =>
    bif decide (n5 > 1) then (
      letIn (IntKind.wrap .i64 (v4 - v3) : Int) fun n6 =>
      letIn (IntKind.wrap .i64 (Int.tdiv n6 2) : Int) fun n7 =>
      letIn (IntKind.wrap .i64 (v3 + n7) : Int) fun n8 =>
      bif n8 == 0 then (
        none)
      else
      letIn (IntKind.wrap .i64 (Int.tdiv v2 n8) : Int) fun n9 =>
      bif decide (n8 ≤ n9) then (
        (lvl Try.prog HH (n + 0)).1 ⟨51, 0, true⟩ 0 (loopOf Try.f51 0) (encSt S51_0 ((v2, n8, v4, ()), ())))
      else
      (lvl Try.prog HH (n + 0)).1 ⟨51, 0, true⟩ 0 (loopOf Try.f51 0) (encSt S51_0 ((v2, v3, n8, ()), ())))
    else
    some (.exit 0, encSt S51_0_e0 ((v3, ()), ())) := by kernel_rfl

theorem fn51 (n : Nat) (n1 : Int) : (lvl Try.prog HH (n + 1)).2 51 [.s (.one (.v (.int .i64 n1)))] [] =
    bif decide (n1 < 1) then (
      some (.s (.one (.v (.int .i64 0))), []))
    else
    ((lvl Try.prog HH (n + 0)).1 ⟨51, 0, true⟩ 0 (loopOf Try.f51 0) (encSt S51_0 ((n1, 1, 4294967296, ()), ()))).bind fun p10 =>
    bif sameEx (.exit 0) p10.1 then (decSt S51_0_e0 p10.2 fun x11 =>
      some (.s (.one (.v (.int .i64 x11.1.1))), []))
    else
    none := by kernel_rfl

/-! armplan/armplanref1.RootUp -/
theorem fn38 (n : Nat) (n1 : Int) : (lvl Try.prog HH (n + 1)).2 38 [.s (.one (.v (.int .i64 n1)))] [] =
    callT (lvl Try.prog HH (n + 0)).2 51 [.s (.one (.v (.int .i64 n1)))] [] outs51 mouts51 fun y2 m3 =>
    bif decide (n1 > 0) then (
      letIn (IntKind.wrap .i64 (y2.1 * y2.1) : Int) fun n4 =>
      bif decide (n4 < n1) then (
        letIn (IntKind.wrap .i64 (y2.1 + 1) : Int) fun n5 =>
        some (.s (.one (.v (.int .i64 n5))), []))
      else
      some (.s (.one (.v (.int .i64 y2.1))), []))
    else
    some (.s (.one (.v (.int .i64 y2.1))), []) := by kernel_rfl

/-! armplan/armplanref10.Norm -/
theorem fn21 (n : Nat) (n1 : Int) (n2 : Int) (n3 : Int) : (lvl Try.prog HH (n + 1)).2 21 [.s (.agg true [.v (.int .i64 n1), .v (.int .i64 n2), .v (.int .i64 n3)])] [] =
    callT (lvl Try.prog HH (n + 0)).2 31 [.s (.agg true [.v (.int .i64 n1), .v (.int .i64 n2), .v (.int .i64 n3)])] [] outs31 mouts31 fun y4 m5 =>
    bif !y4.1 then (
      some (.s (.one (.v (.int .i64 0))), []))
    else
    letIn (IntKind.wrap .i64 (n1 * n1) : Int) fun n6 =>
    letIn (IntKind.wrap .i64 (n2 * n2) : Int) fun n7 =>
    letIn (IntKind.wrap .i64 (n6 + n7) : Int) fun n8 =>
    letIn (IntKind.wrap .i64 (n3 * n3) : Int) fun n9 =>
    letIn (IntKind.wrap .i64 (n8 + n9) : Int) fun n10 =>
    callT (lvl Try.prog HH (n + 0)).2 38 [.s (.one (.v (.int .i64 n10)))] [] outs38 mouts38 fun y11 m12 =>
    some (.s (.one (.v (.int .i64 y11.1))), []) := by kernel_rfl

/-! armplan/armplanlaw15.PlaneSound -/
theorem fn8 (n : Nat) (l1 : List (List D1)) (m2 : List (List D1)) (o3 : List (List D1)) (r4 : List (List D1)) (w5 : List (List D1)) (v6 : List (List D1)) (x7 : Int) (y8 : Int) (z9 : Int) (p10 : Int) (q11 : Int) : (lvl Try.prog HH (n + 1)).2 8 [.s (.one (.fr 1 l1)), .s (.one (.fr 1 m2)), .s (.one (.fr 1 o3)), .s (.one (.fr 1 r4)), .s (.one (.fr 1 w5)), .s (.one (.fr 1 v6)), .s (.one (.v (.int .i64 x7))), .s (.one (.v (.int .i64 y8))), .s (.one (.v (.int .i64 z9))), .s (.one (.v (.int .i64 p10))), .s (.one (.v (.int .i64 q11)))] [] =
    callT (lvl Try.prog HH (n + 0)).2 11 [.s (.one (.fr 1 l1)), .s (.one (.v (.int .i64 3000)))] [] outs11 mouts11 fun y12 m13 =>
    callT (lvl Try.prog HH (n + 0)).2 11 [.s (.one (.fr 1 m2)), .s (.one (.v (.int .i64 3000)))] [] outs11 mouts11 fun y14 m15 =>
    callT (lvl Try.prog HH (n + 0)).2 12 [.s (.one (.v (.int .i64 x7))), .s (.one (.v (.int .i64 y8))), .s (.one (.v (.int .i64 z9)))] [] outs12 mouts12 fun y16 m17 =>
    callT (lvl Try.prog HH (n + 0)).2 17 [.s (.one (.fr 6 y12.1)), .s (.one (.fr 1 o3))] [] outs17 mouts17 fun y18 m19 =>
    callT (lvl Try.prog HH (n + 0)).2 17 [.s (.one (.fr 6 y14.1)), .s (.one (.fr 1 r4))] [] outs17 mouts17 fun y20 m21 =>
    callT (lvl Try.prog HH (n + 0)).2 22 [.s (.one (.v (.int .i64 (((y12.1.length : Nat) : Int))))), .s (.one (.fr 1 w5))] [] outs22 mouts22 fun y22 m23 =>
    callT (lvl Try.prog HH (n + 0)).2 22 [.s (.one (.v (.int .i64 (((y14.1.length : Nat) : Int))))), .s (.one (.fr 1 v6))] [] outs22 mouts22 fun y24 m25 =>
    callT (lvl Try.prog HH (n + 0)).2 15 [.s (.one (.v (.int .i64 p10)))] [] outs15 mouts15 fun y26 m27 =>
    callT (lvl Try.prog HH (n + 0)).2 15 [.s (.one (.v (.int .i64 q11)))] [] outs15 mouts15 fun y28 m29 =>
    callT (lvl Try.prog HH (n + 0)).2 16 [.s (.agg true [.v (.int .i64 y16.1.1), .v (.int .i64 y16.1.2.1), .v (.int .i64 y16.1.2.2.1)]), .s (.one (.fr 6 y12.1)), .s (.one (.v (.int .i64 y26.1))), .s (.one (.fr 6 y14.1)), .s (.one (.v (.int .i64 y28.1)))] [] outs16 mouts16 fun y30 m31 =>
    callT (lvl Try.prog HH (n + 0)).2 23 [.s (.agg true [.v (.int .i64 y16.1.1), .v (.int .i64 y16.1.2.1), .v (.int .i64 y16.1.2.2.1)]), .s (.one (.fr 6 y18.1)), .s (.one (.fr 1 y22.1))] [] outs23 mouts23 fun y32 m33 =>
    callT (lvl Try.prog HH (n + 0)).2 24 [.s (.one (.fr 1 y24.1))] [] outs24 mouts24 fun y34 m35 =>
    letIn (IntKind.wrap .i64 (y32.1 * y34.1) : Int) fun n36 =>
    callT (lvl Try.prog HH (n + 0)).2 23 [.s (.agg true [.v (.int .i64 y16.1.1), .v (.int .i64 y16.1.2.1), .v (.int .i64 y16.1.2.2.1)]), .s (.one (.fr 6 y20.1)), .s (.one (.fr 1 y24.1))] [] outs23 mouts23 fun y37 m38 =>
    callT (lvl Try.prog HH (n + 0)).2 24 [.s (.one (.fr 1 y22.1))] [] outs24 mouts24 fun y39 m40 =>
    letIn (IntKind.wrap .i64 (y37.1 * y39.1) : Int) fun n41 =>
    callT (lvl Try.prog HH (n + 0)).2 13 [] [] outs13 mouts13 fun y42 m43 =>
    bif y42.1 then (
      bif y30.2.1 then (
        letIn (IntKind.wrap .i64 (n36 - n41) : Int) fun n44 =>
        callT (lvl Try.prog HH (n + 0)).2 21 [.s (.agg true [.v (.int .i64 y16.1.1), .v (.int .i64 y16.1.2.1), .v (.int .i64 y16.1.2.2.1)])] [] outs21 mouts21 fun y45 m46 =>
        callT (lvl Try.prog HH (n + 0)).2 15 [.s (.one (.v (.int .i64 p10)))] [] outs15 mouts15 fun y47 m48 =>
        callT (lvl Try.prog HH (n + 0)).2 15 [.s (.one (.v (.int .i64 q11)))] [] outs15 mouts15 fun y49 m50 =>
        letIn (IntKind.wrap .i64 (y47.1 + y49.1) : Int) fun n51 =>
        letIn (IntKind.wrap .i64 (y45.1 * n51) : Int) fun n52 =>
        letIn (IntKind.wrap .i64 (y30.1 + n52) : Int) fun n53 =>
        callT (lvl Try.prog HH (n + 0)).2 24 [.s (.one (.fr 1 y22.1))] [] outs24 mouts24 fun y54 m55 =>
        letIn (IntKind.wrap .i64 (n53 * y54.1) : Int) fun n56 =>
        callT (lvl Try.prog HH (n + 0)).2 24 [.s (.one (.fr 1 y24.1))] [] outs24 mouts24 fun y57 m58 =>
        letIn (IntKind.wrap .i64 (n56 * y57.1) : Int) fun n59 =>
        some (.s (.one (.v (.bool (decide (n44 ≥ n59))))), []))
      else
      some (.s (.one (.v (.bool false))), []))
    else
    some (.s (.one (.v (.bool false))), []) := by kernel_rfl

end Go.Proofs.Ytanjfmogmlgphaa.Am
