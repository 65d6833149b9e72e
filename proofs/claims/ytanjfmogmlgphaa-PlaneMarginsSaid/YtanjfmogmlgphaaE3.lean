/- PRINTED by amprint.py: what the abstract machine answers, function by function. -/
import Derived.Test.YtanjfmogmlgphaaH
import Derived.KernelRfl
set_option linter.unusedVariables false
set_option maxRecDepth 100000
namespace Go.Proofs.Ytanjfmogmlgphaa.Am
open Go Go.Proofs

/-! armplan/armplanref10.Greatest -/
theorem loop41_0 (n : Nat) (v9 : List (List D1)) (v10 : Int) (v11 : Int) (v12 : Int) (c13 : Int) (c14 : Int) (c15 : Int) : (lvl Try.prog HH (n + 1)).1 ⟨41, 0, true⟩ 0 (loopOf Try.f41 0) (encSt S41_0 ((v9, (), v10, v11, v12, ()), ((c13, c14, c15, ()), ()))) =
    bif decide (v12 < (((v9.length : Nat) : Int))) then (
      bif decide (0 ≤ v12) then (
        (nth v9 v12.toNat).bind fun cs16 =>
        bif Nat.beq ((cs16.drop 0).take 6).length 6 then (
          decCts [.int .i64, .int .i64, .int .i64, .int .i64, .int .i64, .int .i64] ((cs16.drop 0).take 6) fun c17 =>
          callT (lvl Try.prog HH (n + 0)).2 53 [.s (.agg true [.v (.int .i64 c13), .v (.int .i64 c14), .v (.int .i64 c15)]), .s (.agg true [.v (.int .i64 c17.1), .v (.int .i64 c17.2.1), .v (.int .i64 c17.2.2.1), .v (.int .i64 c17.2.2.2.1), .v (.int .i64 c17.2.2.2.2.1), .v (.int .i64 c17.2.2.2.2.2.1)])] [] outs53 mouts53 fun y18 m19 =>
          bif v12 == 0 then (
            letIn (IntKind.wrap .i64 (v12 + 1) : Int) fun n20 =>
            (lvl Try.prog HH (n + 0)).1 ⟨41, 0, true⟩ 0 (loopOf Try.f41 0) (encSt S41_0 ((v9, (), y18.2.1, v12, n20, ()), ((c13, c14, c15, ()), ()))))
          else
          bif decide (y18.2.1 > v10) then (
            letIn (IntKind.wrap .i64 (v12 + 1) : Int) fun n21 =>
            (lvl Try.prog HH (n + 0)).1 ⟨41, 0, true⟩ 0 (loopOf Try.f41 0) (encSt S41_0 ((v9, (), y18.2.1, v12, n21, ()), ((c13, c14, c15, ()), ()))))
          else
          letIn (IntKind.wrap .i64 (v12 + 1) : Int) fun n22 =>
          (lvl Try.prog HH (n + 0)).1 ⟨41, 0, true⟩ 0 (loopOf Try.f41 0) (encSt S41_0 ((v9, (), v10, v11, n22, ()), ((c13, c14, c15, ()), ()))))
        else
        none)
      else
      none)
    else
    some (.exit 0, encSt S41_0_e0 ((v10, v11, ()), ())) := by kernel_rfl

theorem fn41 (n : Nat) (n1 : Int) (n2 : Int) (n3 : Int) (l4 : List (List D1)) : (lvl Try.prog HH (n + 1)).2 41 [.s (.agg true [.v (.int .i64 n1), .v (.int .i64 n2), .v (.int .i64 n3)]), .s (.one (.fr 6 l4))] [] =
    callT (lvl Try.prog HH (n + 0)).2 31 [.s (.agg true [.v (.int .i64 n1), .v (.int .i64 n2), .v (.int .i64 n3)])] [] outs31 mouts31 fun y5 m6 =>
    bif !y5.1 then (
      some (.tup [.one (.v (.int .i64 0)), .one (.v (.int .i64 0)), .one (.v (.bool false))], []))
    else
    callT (lvl Try.prog HH (n + 0)).2 52 [.s (.one (.fr 6 l4))] [] outs52 mouts52 fun y7 m8 =>
    bif !y7.1 then (
      some (.tup [.one (.v (.int .i64 0)), .one (.v (.int .i64 0)), .one (.v (.bool false))], []))
    else
    ((lvl Try.prog HH (n + 0)).1 ⟨41, 0, true⟩ 0 (loopOf Try.f41 0) (encSt S41_0 ((l4, (), 0, 0, 0, ()), ((n1, n2, n3, ()), ())))).bind fun p23 =>
    bif sameEx (.exit 0) p23.1 then (decSt S41_0_e0 p23.2 fun x24 =>
      some (.tup [.one (.v (.int .i64 x24.1.1)), .one (.v (.int .i64 x24.1.2.1)), .one (.v (.bool true))], []))
    else
    none := by kernel_rfl

/-! armplan/armplanref14.radius -/
theorem fn42 (n : Nat) (r1 : Int) : (lvl Try.prog HH (n + 1)).2 42 [.s (.one (.v (.int .i64 r1)))] [] =
    bif decide (r1 ≥ 0) then (
      some (.s (.one (.v (.bool (decide (r1 ≤ 1048576))))), []))
    else
    some (.s (.one (.v (.bool false))), []) := by kernel_rfl

/-! armplan/armplanref1.Root -/
theorem loop51_0 (n : Nat) (v2 : Int) (v3 : Int) (v4 : Int) : (lvl Try.prog HH (n + 1)).1 ⟨51, 0, true⟩ 0 (loopOf Try.f51 0) (encSt S51_0 ((v2, v3, v4, ()), ())) =
    letIn (IntKind.wrap .i64 (v4 - v3) : Int) fun n5 =>
    bif decide (n5 > 1) then (
      letIn (IntKind.wrap .i64 (v4 - v3) : Int) fun n6 =>
      letIn (IntKind.wrap .i64 (Int.tdiv n6 2) : Int) fun n7 =>
      letIn (IntKind.wrap .i64 (v3 + n7) : Int) fun n8 =>
      bif n8 == 0 then (
        none)
      else
      letIn (IntKind.wrap .i64 (Int.tdiv v2 n8) : Int) fun n9 =>
      bif decide (n8 ≤ n9) then (
        (lvl Try.prog HH (n + 0)).1 ⟨51, 0, true⟩ 0 (loopOf Try.f51 0) (encSt S51_0 ((v2, n8, v4, ()), ())))
      else
      (lvl Try.prog HH (n + 0)).1 ⟨51, 0, true⟩ 0 (loopOf Try.f51 0) (encSt S51_0 ((v2, v3, n8, ()), ())))
    else
    some (.exit 0, encSt S51_0_e0 ((v3, ()), ())) := by kernel_rfl

theorem fn51 (n : Nat) (n1 : Int) : (lvl Try.prog HH (n + 1)).2 51 [.s (.one (.v (.int .i64 n1)))] [] =
    bif decide (n1 < 1) then (
      some (.s (.one (.v (.int .i64 0))), []))
    else
    ((lvl Try.prog HH (n + 0)).1 ⟨51, 0, true⟩ 0 (loopOf Try.f51 0) (encSt S51_0 ((n1, 1, 4294967296, ()), ()))).bind fun p10 =>
    bif sameEx (.exit 0) p10.1 then (decSt S51_0_e0 p10.2 fun x11 =>
      some (.s (.one (.v (.int .i64 x11.1.1))), []))
    else
    none := by kernel_rfl

/-! armplan/armplanref1.RootUp -/
theorem fn38 (n : Nat) (n1 : Int) : (lvl Try.prog HH (n + 1)).2 38 [.s (.one (.v (.int .i64 n1)))] [] =
    callT (lvl Try.prog HH (n + 0)).2 51 [.s (.one (.v (.int .i64 n1)))] [] outs51 mouts51 fun y2 m3 =>
    bif decide (n1 > 0) then (
      letIn (IntKind.wrap .i64 (y2.1 * y2.1) : Int) fun n4 =>
      bif decide (n4 < n1) then (
        letIn (IntKind.wrap .i64 (y2.1 + 1) : Int) fun n5 =>
        some (.s (.one (.v (.int .i64 n5))), []))
      else
      some (.s (.one (.v (.int .i64 y2.1))), []))
    else
    some (.s (.one (.v (.int .i64 y2.1))), []) := by kernel_rfl

/-! armplan/armplanref10.Norm -/
theorem fn21 (n : Nat) (n1 : Int) (n2 : Int) (n3 : Int) : (lvl Try.prog HH (n + 1)).2 21 [.s (.agg true [.v (.int .i64 n1), .v (.int .i64 n2), .v (.int .i64 n3)])] [] =
    callT (lvl Try.prog HH (n + 0)).2 31 [.s (.agg true [.v (.int .i64 n1), .v (.int .i64 n2), .v (.int .i64 n3)])] [] outs31 mouts31 fun y4 m5 =>
    bif !y4.1 then (
      some (.s (.one (.v (.int .i64 0))), []))
    else
    letIn (IntKind.wrap .i64 (n1 * n1) : Int) fun n6 =>
    letIn (IntKind.wrap .i64 (n2 * n2) : Int) fun n7 =>
    letIn (IntKind.wrap .i64 (n6 + n7) : Int) fun n8 =>
    letIn (IntKind.wrap .i64 (n3 * n3) : Int) fun n9 =>
    letIn (IntKind.wrap .i64 (n8 + n9) : Int) fun n10 =>
    callT (lvl Try.prog HH (n + 0)).2 38 [.s (.one (.v (.int .i64 n10)))] [] outs38 mouts38 fun y11 m12 =>
    some (.s (.one (.v (.int .i64 y11.1))), []) := by kernel_rfl

/-! armplan/armplanref14.Margin -/
theorem fn32 (n : Nat) (n1 : Int) (n2 : Int) (n3 : Int) (a4 : List (List D1)) (ra5 : Int) (b6 : List (List D1)) (rb7 : Int) : (lvl Try.prog HH (n + 1)).2 32 [.s (.agg true [.v (.int .i64 n1), .v (.int .i64 n2), .v (.int .i64 n3)]), .s (.one (.fr 6 a4)), .s (.one (.v (.int .i64 ra5))), .s (.one (.fr 6 b6)), .s (.one (.v (.int .i64 rb7)))] [] =
    callT (lvl Try.prog HH (n + 0)).2 40 [.s (.agg true [.v (.int .i64 n1), .v (.int .i64 n2), .v (.int .i64 n3)]), .s (.one (.fr 6 a4))] [] outs40 mouts40 fun y8 m9 =>
    callT (lvl Try.prog HH (n + 0)).2 41 [.s (.agg true [.v (.int .i64 n1), .v (.int .i64 n2), .v (.int .i64 n3)]), .s (.one (.fr 6 b6))] [] outs41 mouts41 fun y10 m11 =>
    bif !y8.2.2.1 then (
      some (.tup [.one (.v (.int .i64 0)), .one (.v (.bool false))], []))
    else
    bif !y10.2.2.1 then (
      some (.tup [.one (.v (.int .i64 0)), .one (.v (.bool false))], []))
    else
    callT (lvl Try.prog HH (n + 0)).2 42 [.s (.one (.v (.int .i64 ra5)))] [] outs42 mouts42 fun y12 m13 =>
    bif !y12.1 then (
      some (.tup [.one (.v (.int .i64 0)), .one (.v (.bool false))], []))
    else
    callT (lvl Try.prog HH (n + 0)).2 42 [.s (.one (.v (.int .i64 rb7)))] [] outs42 mouts42 fun y14 m15 =>
    bif !y14.1 then (
      some (.tup [.one (.v (.int .i64 0)), .one (.v (.bool false))], []))
    else
    letIn (IntKind.wrap .i64 (y8.1 - y10.1) : Int) fun n16 =>
    callT (lvl Try.prog HH (n + 0)).2 21 [.s (.agg true [.v (.int .i64 n1), .v (.int .i64 n2), .v (.int .i64 n3)])] [] outs21 mouts21 fun y17 m18 =>
    letIn (IntKind.wrap .i64 (ra5 + rb7) : Int) fun n19 =>
    letIn (IntKind.wrap .i64 (y17.1 * n19) : Int) fun n20 =>
    letIn (IntKind.wrap .i64 (n16 - n20) : Int) fun n21 =>
    some (.tup [.one (.v (.int .i64 n21)), .one (.v (.bool true))], []) := by kernel_rfl

/-! armplan/armplanref14.Separates -/
theorem fn33 (n : Nat) (n1 : Int) (n2 : Int) (n3 : Int) (a4 : List (List D1)) (ra5 : Int) (b6 : List (List D1)) (rb7 : Int) : (lvl Try.prog HH (n + 1)).2 33 [.s (.agg true [.v (.int .i64 n1), .v (.int .i64 n2), .v (.int .i64 n3)]), .s (.one (.fr 6 a4)), .s (.one (.v (.int .i64 ra5))), .s (.one (.fr 6 b6)), .s (.one (.v (.int .i64 rb7)))] [] =
    callT (lvl Try.prog HH (n + 0)).2 32 [.s (.agg true [.v (.int .i64 n1), .v (.int .i64 n2), .v (.int .i64 n3)]), .s (.one (.fr 6 a4)), .s (.one (.v (.int .i64 ra5))), .s (.one (.fr 6 b6)), .s (.one (.v (.int .i64 rb7)))] [] outs32 mouts32 fun y8 m9 =>
    bif y8.2.1 then (
      some (.s (.one (.v (.bool (decide (y8.1 > 0))))), []))
    else
    some (.s (.one (.v (.bool false))), []) := by kernel_rfl

/-! armplan/armplanlaw15.margins -/
theorem fn14 (n : Nat) (n1 : Int) (n2 : Int) (n3 : Int) (a4 : List (List D1)) (ra5 : Int) (b6 : List (List D1)) (rb7 : Int) : (lvl Try.prog HH (n + 1)).2 14 [.s (.agg true [.v (.int .i64 n1), .v (.int .i64 n2), .v (.int .i64 n3)]), .s (.one (.fr 6 a4)), .s (.one (.v (.int .i64 ra5))), .s (.one (.fr 6 b6)), .s (.one (.v (.int .i64 rb7)))] [] =
    callT (lvl Try.prog HH (n + 0)).2 16 [.s (.agg true [.v (.int .i64 n1), .v (.int .i64 n2), .v (.int .i64 n3)]), .s (.one (.fr 6 a4)), .s (.one (.v (.int .i64 ra5))), .s (.one (.fr 6 b6)), .s (.one (.v (.int .i64 rb7)))] [] outs16 mouts16 fun y8 m9 =>
    callT (lvl Try.prog HH (n + 0)).2 32 [.s (.agg true [.v (.int .i64 n1), .v (.int .i64 n2), .v (.int .i64 n3)]), .s (.one (.fr 6 a4)), .s (.one (.v (.int .i64 ra5))), .s (.one (.fr 6 b6)), .s (.one (.v (.int .i64 rb7)))] [] outs32 mouts32 fun y10 m11 =>
    bif y8.1 == y10.1 then (
      bif y8.2.1 == y10.2.1 then (
        callT (lvl Try.prog HH (n + 0)).2 25 [.s (.agg true [.v (.int .i64 n1), .v (.int .i64 n2), .v (.int .i64 n3)]), .s (.one (.fr 6 a4)), .s (.one (.v (.int .i64 ra5))), .s (.one (.fr 6 b6)), .s (.one (.v (.int .i64 rb7)))] [] outs25 mouts25 fun y12 m13 =>
        callT (lvl Try.prog HH (n + 0)).2 33 [.s (.agg true [.v (.int .i64 n1), .v (.int .i64 n2), .v (.int .i64 n3)]), .s (.one (.fr 6 a4)), .s (.one (.v (.int .i64 ra5))), .s (.one (.fr 6 b6)), .s (.one (.v (.int .i64 rb7)))] [] outs33 mouts33 fun y14 m15 =>
        some (.s (.one (.v (.bool (y12.1 == y14.1)))), []))
      else
      some (.s (.one (.v (.bool false))), []))
    else
    some (.s (.one (.v (.bool false))), []) := by kernel_rfl

/-! armplan/armplanlaw15.radius -/
theorem fn15 (n : Nat) (r1 : Int) : (lvl Try.prog HH (n + 1)).2 15 [.s (.one (.v (.int .i64 r1)))] [] =
    letIn (Int.fdiv r1 4 : Int) fun n2 =>
    letIn (IntKind.wrap .i64 ((BitVec.ofInt 64 r1 &&& BitVec.ofInt 64 3).toNat : Nat) : Int) fun n3 =>
    bif (decide (0 ≤ n3)) && (decide (n3 < 4)) then (
      (nth ([.v (.int .i64 1), .v (.int .i64 9000), .v (.int .i64 70000), .v (.int .i64 1048577)] : List D1) (n3.toNat * 1)).bind fun d4 =>
      (asInt? .i64 d4).bind fun n5 =>
      callT (lvl Try.prog HH (n + 0)).2 20 [.s (.one (.v (.int .i64 n2))), .s (.one (.v (.int .i64 n5)))] [] outs20 mouts20 fun y6 m7 =>
      some (.s (.one (.v (.int .i64 y6.1))), []))
    else
    none := by kernel_rfl

/-! armplan/armplanlaw15.PlaneMargins -/
theorem fn3 (n : Nat) (n1 : Int) (n2 : Int) (n3 : Int) (ra4 : Int) (rb5 : Int) (raw6 : List (List D1)) (l7 : List (List D1)) (m8 : List (List D1)) (x9 : Int) (y10 : Int) (z11 : Int) (p12 : Int) (q13 : Int) : (lvl Try.prog HH (n + 1)).2 3 [.s (.agg true [.v (.int .i64 n1), .v (.int .i64 n2), .v (.int .i64 n3)]), .s (.one (.v (.int .i64 ra4))), .s (.one (.v (.int .i64 rb5))), .s (.one (.fr 6 raw6)), .s (.one (.fr 1 l7)), .s (.one (.fr 1 m8)), .s (.one (.v (.int .i64 x9))), .s (.one (.v (.int .i64 y10))), .s (.one (.v (.int .i64 z11))), .s (.one (.v (.int .i64 p12))), .s (.one (.v (.int .i64 q13)))] [] =
    callT (lvl Try.prog HH (n + 0)).2 11 [.s (.one (.fr 1 l7)), .s (.one (.v (.int .i64 3000)))] [] outs11 mouts11 fun y14 m15 =>
    callT (lvl Try.prog HH (n + 0)).2 11 [.s (.one (.fr 1 m8)), .s (.one (.v (.int .i64 3000)))] [] outs11 mouts11 fun y16 m17 =>
    callT (lvl Try.prog HH (n + 0)).2 12 [.s (.one (.v (.int .i64 x9))), .s (.one (.v (.int .i64 y10))), .s (.one (.v (.int .i64 z11)))] [] outs12 mouts12 fun y18 m19 =>
    callT (lvl Try.prog HH (n + 0)).2 13 [] [] outs13 mouts13 fun y20 m21 =>
    bif y20.1 then (
      callT (lvl Try.prog HH (n + 0)).2 14 [.s (.agg true [.v (.int .i64 n1), .v (.int .i64 n2), .v (.int .i64 n3)]), .s (.one (.fr 6 raw6)), .s (.one (.v (.int .i64 ra4))), .s (.one (.fr 6 y14.1)), .s (.one (.v (.int .i64 rb5)))] [] outs14 mouts14 fun y22 m23 =>
      bif y22.1 then (
        callT (lvl Try.prog HH (n + 0)).2 15 [.s (.one (.v (.int .i64 p12)))] [] outs15 mouts15 fun y24 m25 =>
        callT (lvl Try.prog HH (n + 0)).2 15 [.s (.one (.v (.int .i64 q13)))] [] outs15 mouts15 fun y26 m27 =>
        callT (lvl Try.prog HH (n + 0)).2 14 [.s (.agg true [.v (.int .i64 y18.1.1), .v (.int .i64 y18.1.2.1), .v (.int .i64 y18.1.2.2.1)]), .s (.one (.fr 6 y14.1)), .s (.one (.v (.int .i64 y24.1))), .s (.one (.fr 6 y16.1)), .s (.one (.v (.int .i64 y26.1)))] [] outs14 mouts14 fun y28 m29 =>
        bif y28.1 then (
          callT (lvl Try.prog HH (n + 0)).2 14 [.s (.agg true [.v (.int .i64 y18.1.1), .v (.int .i64 y18.1.2.1), .v (.int .i64 y18.1.2.2.1)]), .s (.one (.fr 6 y14.1)), .s (.one (.v (.int .i64 ra4))), .s (.one (.fr 6 y16.1)), .s (.one (.v (.int .i64 rb5)))] [] outs14 mouts14 fun y30 m31 =>
          bif y30.1 then (
            callT (lvl Try.prog HH (n + 0)).2 15 [.s (.one (.v (.int .i64 p12)))] [] outs15 mouts15 fun y32 m33 =>
            callT (lvl Try.prog HH (n + 0)).2 15 [.s (.one (.v (.int .i64 q13)))] [] outs15 mouts15 fun y34 m35 =>
            callT (lvl Try.prog HH (n + 0)).2 14 [.s (.agg true [.v (.int .i64 n1), .v (.int .i64 n2), .v (.int .i64 n3)]), .s (.one (.fr 6 y14.1)), .s (.one (.v (.int .i64 y32.1))), .s (.one (.fr 6 raw6)), .s (.one (.v (.int .i64 y34.1)))] [] outs14 mouts14 fun y36 m37 =>
            bif y36.1 then (
              callT (lvl Try.prog HH (n + 0)).2 15 [.s (.one (.v (.int .i64 p12)))] [] outs15 mouts15 fun y38 m39 =>
              letIn (IntKind.wrap .i64 (y38.1 - 1) : Int) fun n40 =>
              callT (lvl Try.prog HH (n + 0)).2 15 [.s (.one (.v (.int .i64 q13)))] [] outs15 mouts15 fun y41 m42 =>
              letIn (IntKind.wrap .i64 (2 * y41.1) : Int) fun n43 =>
              callT (lvl Try.prog HH (n + 0)).2 14 [.s (.agg true [.v (.int .i64 y18.1.1), .v (.int .i64 y18.1.2.1), .v (.int .i64 y18.1.2.2.1)]), .s (.one (.fr 6 y14.1)), .s (.one (.v (.int .i64 n40))), .s (.one (.fr 6 y16.1)), .s (.one (.v (.int .i64 n43)))] [] outs14 mouts14 fun y44 m45 =>
              some (.s (.one (.v (.bool y44.1))), []))
            else
            some (.s (.one (.v (.bool false))), []))
          else
          some (.s (.one (.v (.bool false))), []))
        else
        some (.s (.one (.v (.bool false))), []))
      else
      some (.s (.one (.v (.bool false))), []))
    else
    some (.s (.one (.v (.bool false))), []) := by kernel_rfl

end Go.Proofs.Ytanjfmogmlgphaa.Am
