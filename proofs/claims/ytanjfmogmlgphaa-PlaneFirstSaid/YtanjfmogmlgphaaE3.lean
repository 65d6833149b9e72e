/- PRINTED by amprint.py: what the abstract machine answers, function by function. -/
import Derived.Test.YtanjfmogmlgphaaH
import Derived.KernelRfl
set_option linter.unusedVariables false
set_option maxRecDepth 100000
namespace Go.Proofs.Ytanjfmogmlgphaa.Am
open Go Go.Proofs

/-! armplan/armplanref14.radius -/
theorem fn42 (n : Nat) (r1 : Int) : (lvl Try.prog HH (n + 1)).2 42 [.s (.one (.v (.int .i64 r1)))] [] =
    bif decide (r1 ≥ 0) then (
      some (.s (.one (.v (.bool (decide (r1 ≤ 1048576))))), []))
    else
    some (.s (.one (.v (.bool false))), []) := by kernel_rfl

/-! armplan/armplanref1.Root -/
theorem loop51_0 (n : Nat) (v2 : Int) (v3 : Int) (v4 : Int) : (lvl Try.prog HH (n + 1)).1 ⟨51, 0, true⟩ 0 (loopOf Try.f51 0) (encSt S51_0 ((v2, v3, v4, ()), ())) =
    letIn (IntKind.wrap .i64 (v4 - v3) : Int) fun n5 =>
    bif decide (n5 > 1) then (
      letIn (IntKind.wrap .i64 (v4 - v3) : Int) fun n6 =>
      letIn (IntKind.wrap .i64 (Int.tdiv n6 2) : Int) fun n7 =>
      letIn (IntKind.wrap .i64 (v3 + n7) : Int) fun n8 =>
      bif n8 == 0 then (
        none)
      else
      letIn (IntKind.wrap .i64 (Int.tdiv v2 n8) : Int) fun n9 =>
      bif decide (n8 ≤ n9) then (
        (lvl Try.prog HH (n + 0)).1 ⟨51, 0, true⟩ 0 (loopOf Try.f51 0) (encSt S51_0 ((v2, n8, v4, ()), ())))
      else
      (lvl Try.prog HH (n + 0)).1 ⟨51, 0, true⟩ 0 (loopOf Try.f51 0) (encSt S51_0 ((v2, v3, n8, ()), ())))
    else
    some (.exit 0, encSt S51_0_e0 ((v3, ()), ())) := by kernel_rfl

theorem fn51 (n : Nat) (n1 : Int) : (lvl Try.prog HH (n + 1)).2 51 [.s (.one (.v (.int .i64 n1)))] [] =
    bif decide (n1 < 1) then (
      some (.s (.one (.v (.int .i64 0))), []))
    else
    ((lvl Try.prog HH (n + 0)).1 ⟨51, 0, true⟩ 0 (loopOf Try.f51 0) (encSt S51_0 ((n1, 1, 4294967296, ()), ()))).bind fun p10 =>
    bif sameEx (.exit 0) p10.1 then (decSt S51_0_e0 p10.2 fun x11 =>
      some (.s (.one (.v (.int .i64 x11.1.1))), []))
    else
    none := by kernel_rfl

/-! armplan/armplanref1.RootUp -/
theorem fn38 (n : Nat) (n1 : Int) : (lvl Try.prog HH (n + 1)).2 38 [.s (.one (.v (.int .i64 n1)))] [] =
    callT (lvl Try.prog HH (n + 0)).2 51 [.s (.one (.v (.int .i64 n1)))] [] outs51 mouts51 fun y2 m3 =>
    bif decide (n1 > 0) then (
      letIn (IntKind.wrap .i64 (y2.1 * y2.1) : Int) fun n4 =>
      bif decide (n4 < n1) then (
        letIn (IntKind.wrap .i64 (y2.1 + 1) : Int) fun n5 =>
        some (.s (.one (.v (.int .i64 n5))), []))
      else
      some (.s (.one (.v (.int .i64 y2.1))), []))
    else
    some (.s (.one (.v (.int .i64 y2.1))), []) := by kernel_rfl

/-! armplan/armplanref10.Norm -/
theorem fn21 (n : Nat) (n1 : Int) (n2 : Int) (n3 : Int) : (lvl Try.prog HH (n + 1)).2 21 [.s (.agg true [.v (.int .i64 n1), .v (.int .i64 n2), .v (.int .i64 n3)])] [] =
    callT (lvl Try.prog HH (n + 0)).2 31 [.s (.agg true [.v (.int .i64 n1), .v (.int .i64 n2), .v (.int .i64 n3)])] [] outs31 mouts31 fun y4 m5 =>
    bif !y4.1 then (
      some (.s (.one (.v (.int .i64 0))), []))
    else
    letIn (IntKind.wrap .i64 (n1 * n1) : Int) fun n6 =>
    letIn (IntKind.wrap .i64 (n2 * n2) : Int) fun n7 =>
    letIn (IntKind.wrap .i64 (n6 + n7) : Int) fun n8 =>
    letIn (IntKind.wrap .i64 (n3 * n3) : Int) fun n9 =>
    letIn (IntKind.wrap .i64 (n8 + n9) : Int) fun n10 =>
    callT (lvl Try.prog HH (n + 0)).2 38 [.s (.one (.v (.int .i64 n10)))] [] outs38 mouts38 fun y11 m12 =>
    some (.s (.one (.v (.int .i64 y11.1))), []) := by kernel_rfl

/-! armplan/armplanref14.Margin -/
theorem fn32 (n : Nat) (n1 : Int) (n2 : Int) (n3 : Int) (a4 : List (List D1)) (ra5 : Int) (b6 : List (List D1)) (rb7 : Int) : (lvl Try.prog HH (n + 1)).2 32 [.s (.agg true [.v (.int .i64 n1), .v (.int .i64 n2), .v (.int .i64 n3)]), .s (.one (.fr 6 a4)), .s (.one (.v (.int .i64 ra5))), .s (.one (.fr 6 b6)), .s (.one (.v (.int .i64 rb7)))] [] =
    callT (lvl Try.prog HH (n + 0)).2 40 [.s (.agg true [.v (.int .i64 n1), .v (.int .i64 n2), .v (.int .i64 n3)]), .s (.one (.fr 6 a4))] [] outs40 mouts40 fun y8 m9 =>
    callT (lvl Try.prog HH (n + 0)).2 41 [.s (.agg true [.v (.int .i64 n1), .v (.int .i64 n2), .v (.int .i64 n3)]), .s (.one (.fr 6 b6))] [] outs41 mouts41 fun y10 m11 =>
    bif !y8.2.2.1 then (
      some (.tup [.one (.v (.int .i64 0)), .one (.v (.bool false))], []))
    else
    bif !y10.2.2.1 then (
      some (.tup [.one (.v (.int .i64 0)), .one (.v (.bool false))], []))
    else
    callT (lvl Try.prog HH (n + 0)).2 42 [.s (.one (.v (.int .i64 ra5)))] [] outs42 mouts42 fun y12 m13 =>
    bif !y12.1 then (
      some (.tup [.one (.v (.int .i64 0)), .one (.v (.bool false))], []))
    else
    callT (lvl Try.prog HH (n + 0)).2 42 [.s (.one (.v (.int .i64 rb7)))] [] outs42 mouts42 fun y14 m15 =>
    bif !y14.1 then (
      some (.tup [.one (.v (.int .i64 0)), .one (.v (.bool false))], []))
    else
    letIn (IntKind.wrap .i64 (y8.1 - y10.1) : Int) fun n16 =>
    callT (lvl Try.prog HH (n + 0)).2 21 [.s (.agg true [.v (.int .i64 n1), .v (.int .i64 n2), .v (.int .i64 n3)])] [] outs21 mouts21 fun y17 m18 =>
    letIn (IntKind.wrap .i64 (ra5 + rb7) : Int) fun n19 =>
    letIn (IntKind.wrap .i64 (y17.1 * n19) : Int) fun n20 =>
    letIn (IntKind.wrap .i64 (n16 - n20) : Int) fun n21 =>
    some (.tup [.one (.v (.int .i64 n21)), .one (.v (.bool true))], []) := by kernel_rfl

/-! armplan/armplanref14.Separates -/
theorem fn33 (n : Nat) (n1 : Int) (n2 : Int) (n3 : Int) (a4 : List (List D1)) (ra5 : Int) (b6 : List (List D1)) (rb7 : Int) : (lvl Try.prog HH (n + 1)).2 33 [.s (.agg true [.v (.int .i64 n1), .v (.int .i64 n2), .v (.int .i64 n3)]), .s (.one (.fr 6 a4)), .s (.one (.v (.int .i64 ra5))), .s (.one (.fr 6 b6)), .s (.one (.v (.int .i64 rb7)))] [] =
    callT (lvl Try.prog HH (n + 0)).2 32 [.s (.agg true [.v (.int .i64 n1), .v (.int .i64 n2), .v (.int .i64 n3)]), .s (.one (.fr 6 a4)), .s (.one (.v (.int .i64 ra5))), .s (.one (.fr 6 b6)), .s (.one (.v (.int .i64 rb7)))] [] outs32 mouts32 fun y8 m9 =>
    bif y8.2.1 then (
      some (.s (.one (.v (.bool (decide (y8.1 > 0))))), []))
    else
    some (.s (.one (.v (.bool false))), []) := by kernel_rfl

/-! armplan/armplanref14.First -/
theorem loop29_0 (n : Nat) (v6 : List (List D1)) (v7 : List (List D1)) (v8 : Int) (v9 : List (List D1)) (v10 : Int) (v11 : Int) : (lvl Try.prog HH (n + 1)).1 ⟨29, 0, true⟩ 0 (loopOf Try.f29 0) (encSt S29_0 ((v6, v7, v8, v9, v10, v11, ()), ())) =
    bif decide (v11 < (((v6.length : Nat) : Int))) then (
      bif decide (0 ≤ v11) then (
        (nth v6 v11.toNat).bind fun cs12 =>
        bif Nat.beq ((cs12.drop 0).take 3).length 3 then (
          decCts [.int .i64, .int .i64, .int .i64] ((cs12.drop 0).take 3) fun c13 =>
          callT (lvl Try.prog HH (n + 0)).2 33 [.s (.agg true [.v (.int .i64 c13.1), .v (.int .i64 c13.2.1), .v (.int .i64 c13.2.2.1)]), .s (.one (.fr 6 v7)), .s (.one (.v (.int .i64 v8))), .s (.one (.fr 6 v9)), .s (.one (.v (.int .i64 v10)))] [] outs33 mouts33 fun y14 m15 =>
          bif y14.1 then (
            some (.ret, encSt S29_0_r ((v11, true, ()), ())))
          else
          letIn (IntKind.wrap .i64 (v11 + 1) : Int) fun n16 =>
          (lvl Try.prog HH (n + 0)).1 ⟨29, 0, true⟩ 0 (loopOf Try.f29 0) (encSt S29_0 ((v6, v7, v8, v9, v10, n16, ()), ())))
        else
        none)
      else
      none)
    else
    some (.exit 0, encSt S29_0_e0 ((), ())) := by kernel_rfl

theorem fn29 (n : Nat) (l1 : List (List D1)) (a2 : List (List D1)) (ra3 : Int) (b4 : List (List D1)) (rb5 : Int) : (lvl Try.prog HH (n + 1)).2 29 [.s (.one (.fr 3 l1)), .s (.one (.fr 6 a2)), .s (.one (.v (.int .i64 ra3))), .s (.one (.fr 6 b4)), .s (.one (.v (.int .i64 rb5)))] [] =
    ((lvl Try.prog HH (n + 0)).1 ⟨29, 0, true⟩ 0 (loopOf Try.f29 0) (encSt S29_0 ((l1, a2, ra3, b4, rb5, 0, ()), ()))).bind fun p17 =>
    bif sameEx (.ret) p17.1 then (decSt S29_0_r p17.2 fun x18 =>
      some (.tup [.one (.v (.int .i64 x18.1.1)), .one (.v (.bool x18.1.2.1))], []))
    else
    bif sameEx (.exit 0) p17.1 then (decSt S29_0_e0 p17.2 fun x19 =>
      some (.tup [.one (.v (.int .i64 0)), .one (.v (.bool false))], []))
    else
    none := by kernel_rfl

/-! armplan/armplanlaw15.awake -/
theorem fn13 (n : Nat)  : (lvl Try.prog HH (n + 1)).2 13 [] [] =
    callT (lvl Try.prog HH (n + 0)).2 16 [.s (.agg true [.v (.int .i64 1), .v (.int .i64 0), .v (.int .i64 0)]), .s (.one (.fr 6 [[.v (.int .i64 10), .v (.int .i64 12), .v (.int .i64 0), .v (.int .i64 0), .v (.int .i64 0), .v (.int .i64 0)]])), .s (.one (.v (.int .i64 2))), .s (.one (.fr 6 [[.v (.int .i64 3), .v (.int .i64 5), .v (.int .i64 0), .v (.int .i64 0), .v (.int .i64 0), .v (.int .i64 0)]])), .s (.one (.v (.int .i64 2)))] [] outs16 mouts16 fun y1 m2 =>
    bif y1.2.1 then (
      bif y1.1 == 1 then (
        callT (lvl Try.prog HH (n + 0)).2 25 [.s (.agg true [.v (.int .i64 1), .v (.int .i64 0), .v (.int .i64 0)]), .s (.one (.fr 6 [[.v (.int .i64 10), .v (.int .i64 12), .v (.int .i64 0), .v (.int .i64 0), .v (.int .i64 0), .v (.int .i64 0)]])), .s (.one (.v (.int .i64 2))), .s (.one (.fr 6 [[.v (.int .i64 3), .v (.int .i64 5), .v (.int .i64 0), .v (.int .i64 0), .v (.int .i64 0), .v (.int .i64 0)]])), .s (.one (.v (.int .i64 2)))] [] outs25 mouts25 fun y3 m4 =>
        bif y3.1 then (
          callT (lvl Try.prog HH (n + 0)).2 25 [.s (.agg true [.v (.int .i64 1), .v (.int .i64 0), .v (.int .i64 0)]), .s (.one (.fr 6 [[.v (.int .i64 10), .v (.int .i64 12), .v (.int .i64 0), .v (.int .i64 0), .v (.int .i64 0), .v (.int .i64 0)]])), .s (.one (.v (.int .i64 3))), .s (.one (.fr 6 [[.v (.int .i64 3), .v (.int .i64 5), .v (.int .i64 0), .v (.int .i64 0), .v (.int .i64 0), .v (.int .i64 0)]])), .s (.one (.v (.int .i64 2)))] [] outs25 mouts25 fun y5 m6 =>
          some (.s (.one (.v (.bool (!y5.1)))), []))
        else
        some (.s (.one (.v (.bool false))), []))
      else
      some (.s (.one (.v (.bool false))), []))
    else
    some (.s (.one (.v (.bool false))), []) := by kernel_rfl

/-! armplan/armplanlaw15.PlaneFirst -/
theorem loop10_0 (n : Nat) (v15 : Int) (v16 : Int) (v17 : List (List D1)) (v18 : List (List D1)) (v19 : Int) (c20 : List (List D1)) (c21 : Int) (es22 : List (List D1)) : (lvl Try.prog HH (n + 1)).1 ⟨10, 0, true⟩ 0 (loopOf Try.f10 0) (encSt S10_0 ((v15, v16, v17, v18, (), (), v19, ()), ((c20, c21, ()), es22, ()))) =
    bif decide (v19 > 0) then (
      callT (lvl Try.prog HH (n + 0)).2 27 [.s (.one (.ptr 0 0 0)), .s (.one (.v (.int .i64 1048576)))] [.own 2 true [[.fr 1 c20, .v (.int .i64 c21)]]] outs27 mouts27 fun y23 m24 =>
      callT (lvl Try.prog HH (n + 0)).2 27 [.s (.one (.ptr 0 0 0)), .s (.one (.v (.int .i64 1048576)))] [.own 2 true [[.fr 1 m24.1.1, .v (.int .i64 m24.1.2.1)]]] outs27 mouts27 fun y25 m26 =>
      callT (lvl Try.prog HH (n + 0)).2 27 [.s (.one (.ptr 0 0 0)), .s (.one (.v (.int .i64 1048576)))] [.own 2 true [[.fr 1 m26.1.1, .v (.int .i64 m26.1.2.1)]]] outs27 mouts27 fun y27 m28 =>
      callT (lvl Try.prog HH (n + 0)).2 12 [.s (.one (.v (.int .i64 y23.1))), .s (.one (.v (.int .i64 y25.1))), .s (.one (.v (.int .i64 y27.1)))] [] outs12 mouts12 fun y29 m30 =>
      bif decide ((es22.length + 1) * 24 ≤ 140737488355328) then (
        letIn (IntKind.wrap .i64 (v19 - 1) : Int) fun n31 =>
        (lvl Try.prog HH (n + 0)).1 ⟨10, 0, true⟩ 0 (loopOf Try.f10 0) (encSt S10_0 ((v15, v16, v17, v18, (), (), n31, ()), ((m28.1.1, m28.1.2.1, ()), (es22 ++ ([[.v (.int .i64 y29.1.1), .v (.int .i64 y29.1.2.1), .v (.int .i64 y29.1.2.2.1)]] : List (List D1))), ()))))
      else
      none)
    else
    some (.exit 0, encSt S10_0_e0 ((v15, v16, v17, v18, (), ()), (es22, ()))) := by kernel_rfl

theorem fn10 (n : Nat) (raw1 : List (List D1)) (l2 : List (List D1)) (m3 : List (List D1)) (o4 : List (List D1)) (p5 : Int) (q6 : Int) : (lvl Try.prog HH (n + 1)).2 10 [.s (.one (.fr 3 raw1)), .s (.one (.fr 1 l2)), .s (.one (.fr 1 m3)), .s (.one (.fr 1 o4)), .s (.one (.v (.int .i64 p5))), .s (.one (.v (.int .i64 q6)))] [] =
    callT (lvl Try.prog HH (n + 0)).2 11 [.s (.one (.fr 1 l2)), .s (.one (.v (.int .i64 3000)))] [] outs11 mouts11 fun y7 m8 =>
    callT (lvl Try.prog HH (n + 0)).2 11 [.s (.one (.fr 1 m3)), .s (.one (.v (.int .i64 3000)))] [] outs11 mouts11 fun y9 m10 =>
    callT (lvl Try.prog HH (n + 0)).2 26 [.s (.one (.fr 1 o4))] [] outs26 mouts26 fun y11 m12 =>
    bif decide ((0 + raw1.length) * 24 ≤ 140737488355328) then (
      callT (lvl Try.prog HH (n + 0)).2 27 [.s (.one (.ptr 0 0 0)), .s (.one (.v (.int .i64 5)))] [.own 2 true [[.fr 1 m12.1.1, .v (.int .i64 m12.1.2.1)]]] outs27 mouts27 fun y13 m14 =>
      ((lvl Try.prog HH (n + 0)).1 ⟨10, 0, true⟩ 0 (loopOf Try.f10 0) (encSt S10_0 ((p5, q6, y7.1, y9.1, (), (), y13.1, ()), ((m14.1.1, m14.1.2.1, ()), ([] ++ raw1), ())))).bind fun p32 =>
      bif sameEx (.exit 0) p32.1 then (decSt S10_0_e0 p32.2 fun x33 =>
        callT (lvl Try.prog HH (n + 0)).2 15 [.s (.one (.v (.int .i64 x33.1.1)))] [] outs15 mouts15 fun y34 m35 =>
        callT (lvl Try.prog HH (n + 0)).2 15 [.s (.one (.v (.int .i64 x33.1.2.1)))] [] outs15 mouts15 fun y36 m37 =>
        callT (lvl Try.prog HH (n + 0)).2 28 [.s (.one (.fr 3 x33.2.1)), .s (.one (.fr 6 x33.1.2.2.1)), .s (.one (.v (.int .i64 y34.1))), .s (.one (.fr 6 x33.1.2.2.2.1)), .s (.one (.v (.int .i64 y36.1)))] [] outs28 mouts28 fun y38 m39 =>
        callT (lvl Try.prog HH (n + 0)).2 15 [.s (.one (.v (.int .i64 x33.1.1)))] [] outs15 mouts15 fun y40 m41 =>
        callT (lvl Try.prog HH (n + 0)).2 15 [.s (.one (.v (.int .i64 x33.1.2.1)))] [] outs15 mouts15 fun y42 m43 =>
        callT (lvl Try.prog HH (n + 0)).2 29 [.s (.one (.fr 3 x33.2.1)), .s (.one (.fr 6 x33.1.2.2.1)), .s (.one (.v (.int .i64 y40.1))), .s (.one (.fr 6 x33.1.2.2.2.1)), .s (.one (.v (.int .i64 y42.1)))] [] outs29 mouts29 fun y44 m45 =>
        callT (lvl Try.prog HH (n + 0)).2 13 [] [] outs13 mouts13 fun y46 m47 =>
        bif y46.1 then (
          bif y38.1 == y44.1 then (
            some (.s (.one (.v (.bool (y38.2.1 == y44.2.1)))), []))
          else
          some (.s (.one (.v (.bool false))), []))
        else
        some (.s (.one (.v (.bool false))), []))
      else
      none)
    else
    none := by kernel_rfl

end Go.Proofs.Ytanjfmogmlgphaa.Am
