/- PRINTED by amprint.py: what the abstract machine answers, function by function. -/
import Derived.Test.YtanjfmogmlgphaaH
import Derived.KernelRfl
set_option linter.unusedVariables false
set_option maxRecDepth 100000
namespace Go.Proofs.Ytanjfmogmlgphaa.Am
open Go Go.Proofs

/-! armplan/support.Norm -/
theorem fn47 (n : Nat) (n1 : Int) (n2 : Int) (n3 : Int) : (lvl Try.prog HH (n + 1)).2 47 [.s (.agg true [.v (.int .i64 n1), .v (.int .i64 n2), .v (.int .i64 n3)])] [] =
    callT (lvl Try.prog HH (n + 0)).2 43 [.s (.agg true [.v (.int .i64 n1), .v (.int .i64 n2), .v (.int .i64 n3)])] [] outs43 mouts43 fun y4 m5 =>
    bif !y4.1 then (
      some (.s (.one (.v (.int .i64 0))), []))
    else
    letIn (IntKind.wrap .i64 (n1 * n1) : Int) fun n6 =>
    letIn (IntKind.wrap .i64 (n2 * n2) : Int) fun n7 =>
    letIn (IntKind.wrap .i64 (n6 + n7) : Int) fun n8 =>
    letIn (IntKind.wrap .i64 (n3 * n3) : Int) fun n9 =>
    letIn (IntKind.wrap .i64 (n8 + n9) : Int) fun n10 =>
    callT (lvl Try.prog HH (n + 0)).2 62 [.s (.one (.v (.int .i64 n10)))] [] outs62 mouts62 fun y11 m12 =>
    some (.s (.one (.v (.int .i64 y11.1))), []) := by kernel_rfl

/-! (armplan/plane.sides).margin -/
theorem fn34 (n : Nat) (s1 : List (List D1)) (s2 : Int) (s3 : List (List D1)) (s4 : Int) (n5 : Int) (n6 : Int) (n7 : Int) : (lvl Try.prog HH (n + 1)).2 34 [.s (.agg true [.fr 6 s1, .v (.int .i64 s2), .fr 6 s3, .v (.int .i64 s4)]), .s (.agg true [.v (.int .i64 n5), .v (.int .i64 n6), .v (.int .i64 n7)])] [] =
    callT (lvl Try.prog HH (n + 0)).2 43 [.s (.agg true [.v (.int .i64 n5), .v (.int .i64 n6), .v (.int .i64 n7)])] [] outs43 mouts43 fun y8 m9 =>
    bif !y8.1 then (
      some (.tup [.one (.v (.int .i64 0)), .one (.v (.bool false))], []))
    else
    callT (lvl Try.prog HH (n + 0)).2 44 [.s (.agg true [.fr 6 s1, .v (.int .i64 s2)])] [] outs44 mouts44 fun y10 m11 =>
    bif !y10.1 then (
      some (.tup [.one (.v (.int .i64 0)), .one (.v (.bool false))], []))
    else
    callT (lvl Try.prog HH (n + 0)).2 44 [.s (.agg true [.fr 6 s3, .v (.int .i64 s4)])] [] outs44 mouts44 fun y12 m13 =>
    bif !y12.1 then (
      some (.tup [.one (.v (.int .i64 0)), .one (.v (.bool false))], []))
    else
    callT (lvl Try.prog HH (n + 0)).2 45 [.s (.agg true [.v (.int .i64 n5), .v (.int .i64 n6), .v (.int .i64 n7)]), .s (.one (.fr 6 s1))] [] outs45 mouts45 fun y14 m15 =>
    callT (lvl Try.prog HH (n + 0)).2 46 [.s (.agg true [.v (.int .i64 n5), .v (.int .i64 n6), .v (.int .i64 n7)]), .s (.one (.fr 6 s3))] [] outs46 mouts46 fun y16 m17 =>
    letIn (IntKind.wrap .i64 (y14.1 - y16.1) : Int) fun n18 =>
    callT (lvl Try.prog HH (n + 0)).2 47 [.s (.agg true [.v (.int .i64 n5), .v (.int .i64 n6), .v (.int .i64 n7)])] [] outs47 mouts47 fun y19 m20 =>
    letIn (IntKind.wrap .i64 (s2 + s4) : Int) fun n21 =>
    letIn (IntKind.wrap .i64 (y19.1 * n21) : Int) fun n22 =>
    letIn (IntKind.wrap .i64 (n18 - n22) : Int) fun n23 =>
    some (.tup [.one (.v (.int .i64 n23)), .one (.v (.bool true))], []) := by kernel_rfl

/-! armplan/plane.Margin -/
theorem fn16 (n : Nat) (n1 : Int) (n2 : Int) (n3 : Int) (a4 : List (List D1)) (ra5 : Int) (b6 : List (List D1)) (rb7 : Int) : (lvl Try.prog HH (n + 1)).2 16 [.s (.agg true [.v (.int .i64 n1), .v (.int .i64 n2), .v (.int .i64 n3)]), .s (.one (.fr 6 a4)), .s (.one (.v (.int .i64 ra5))), .s (.one (.fr 6 b6)), .s (.one (.v (.int .i64 rb7)))] [] =
    callT (lvl Try.prog HH (n + 0)).2 34 [.s (.agg true [.fr 6 a4, .v (.int .i64 ra5), .fr 6 b6, .v (.int .i64 rb7)]), .s (.agg true [.v (.int .i64 n1), .v (.int .i64 n2), .v (.int .i64 n3)])] [] outs34 mouts34 fun y8 m9 =>
    some (.tup [.one (.v (.int .i64 y8.1)), .one (.v (.bool y8.2.1))], []) := by kernel_rfl

/-! armplan/plane.Separates -/
theorem fn25 (n : Nat) (n1 : Int) (n2 : Int) (n3 : Int) (a4 : List (List D1)) (ra5 : Int) (b6 : List (List D1)) (rb7 : Int) : (lvl Try.prog HH (n + 1)).2 25 [.s (.agg true [.v (.int .i64 n1), .v (.int .i64 n2), .v (.int .i64 n3)]), .s (.one (.fr 6 a4)), .s (.one (.v (.int .i64 ra5))), .s (.one (.fr 6 b6)), .s (.one (.v (.int .i64 rb7)))] [] =
    callT (lvl Try.prog HH (n + 0)).2 16 [.s (.agg true [.v (.int .i64 n1), .v (.int .i64 n2), .v (.int .i64 n3)]), .s (.one (.fr 6 a4)), .s (.one (.v (.int .i64 ra5))), .s (.one (.fr 6 b6)), .s (.one (.v (.int .i64 rb7)))] [] outs16 mouts16 fun y8 m9 =>
    bif y8.2.1 then (
      some (.s (.one (.v (.bool (decide (y8.1 > 0))))), []))
    else
    some (.s (.one (.v (.bool false))), []) := by kernel_rfl

/-! armplan/plane.First -/
theorem loop28_0 (n : Nat) (v6 : List (List D1)) (v7 : Int) (v8 : List (List D1)) (v9 : Int) (v10 : List (List D1)) (v11 : Int) (v12 : Int) : (lvl Try.prog HH (n + 1)).1 ⟨28, 0, true⟩ 0 (loopOf Try.f28 0) (encSt S28_0 ((v6, v7, v8, v9, v10, v11, v12, ()), ())) =
    bif decide (v12 < v11) then (
      bif decide (0 ≤ v12) then (
        (nth v10 v12.toNat).bind fun cs13 =>
        bif Nat.beq ((cs13.drop 0).take 3).length 3 then (
          decCts [.int .i64, .int .i64, .int .i64] ((cs13.drop 0).take 3) fun c14 =>
          callT (lvl Try.prog HH (n + 0)).2 25 [.s (.agg true [.v (.int .i64 c14.1), .v (.int .i64 c14.2.1), .v (.int .i64 c14.2.2.1)]), .s (.one (.fr 6 v6)), .s (.one (.v (.int .i64 v7))), .s (.one (.fr 6 v8)), .s (.one (.v (.int .i64 v9)))] [] outs25 mouts25 fun y15 m16 =>
          bif y15.1 then (
            some (.ret, encSt S28_0_r ((v12, true, ()), ())))
          else
          letIn (IntKind.wrap .i64 (v12 + 1) : Int) fun n17 =>
          (lvl Try.prog HH (n + 0)).1 ⟨28, 0, true⟩ 0 (loopOf Try.f28 0) (encSt S28_0 ((v6, v7, v8, v9, v10, v11, n17, ()), ())))
        else
        none)
      else
      none)
    else
    some (.exit 0, encSt S28_0_e0 ((), ())) := by kernel_rfl

theorem fn28 (n : Nat) (l1 : List (List D1)) (a2 : List (List D1)) (ra3 : Int) (b4 : List (List D1)) (rb5 : Int) : (lvl Try.prog HH (n + 1)).2 28 [.s (.one (.fr 3 l1)), .s (.one (.fr 6 a2)), .s (.one (.v (.int .i64 ra3))), .s (.one (.fr 6 b4)), .s (.one (.v (.int .i64 rb5)))] [] =
    ((lvl Try.prog HH (n + 0)).1 ⟨28, 0, true⟩ 0 (loopOf Try.f28 0) (encSt S28_0 ((a2, ra3, b4, rb5, l1, (((l1.length : Nat) : Int)), 0, ()), ()))).bind fun p18 =>
    bif sameEx (.ret) p18.1 then (decSt S28_0_r p18.2 fun x19 =>
      some (.tup [.one (.v (.int .i64 x19.1.1)), .one (.v (.bool x19.1.2.1))], []))
    else
    bif sameEx (.exit 0) p18.1 then (decSt S28_0_e0 p18.2 fun x20 =>
      some (.tup [.one (.v (.int .i64 0)), .one (.v (.bool false))], []))
    else
    none := by kernel_rfl

/-! armplan/armplanref10.reached -/
theorem fn63 (n : Nat) (v1 : Int) (v2 : Int) (v3 : Int) (v4 : Int) (v5 : Int) (v6 : Int) : (lvl Try.prog HH (n + 5)).2 63 [.s (.agg true [.v (.int .i64 v1), .v (.int .i64 v2), .v (.int .i64 v3), .v (.int .i64 v4), .v (.int .i64 v5), .v (.int .i64 v6)])] [] =
    Option.bind (
      bif decide (v1 < (-268435456)) then (
        some (.ret, encSt S63_0_r ((false, ()), ())))
      else
      bif decide (v1 > v2) then (
        some (.ret, encSt S63_0_r ((false, ()), ())))
      else
      bif decide (v2 > 268435456) then (
        some (.ret, encSt S63_0_r ((false, ()), ())))
      else
      bif decide (v3 < (-268435456)) then (
        some (.ret, encSt S63_0_r ((false, ()), ())))
      else
      bif decide (v3 > v4) then (
        some (.ret, encSt S63_0_r ((false, ()), ())))
      else
      bif decide (v4 > 268435456) then (
        some (.ret, encSt S63_0_r ((false, ()), ())))
      else
      bif decide (v5 < (-268435456)) then (
        some (.ret, encSt S63_0_r ((false, ()), ())))
      else
      bif decide (v5 > v6) then (
        some (.ret, encSt S63_0_r ((false, ()), ())))
      else
      bif decide (v6 > 268435456) then (
        some (.ret, encSt S63_0_r ((false, ()), ())))
      else
      some (.exit 0, encSt S63_0_e0 ((), ()))) fun p7 =>
    bif sameEx (.ret) p7.1 then (decSt S63_0_r p7.2 fun x8 =>
      some (.s (.one (.v (.bool x8.1.1))), []))
    else
    bif sameEx (.exit 0) p7.1 then (decSt S63_0_e0 p7.2 fun x9 =>
      some (.s (.one (.v (.bool true))), []))
    else
    none := by kernel_rfl

/-! armplan/armplanref10.Placed -/
theorem loop52_0 (n : Nat) (v2 : List (List D1)) (v3 : Int) : (lvl Try.prog HH (n + 1)).1 ⟨52, 0, true⟩ 0 (loopOf Try.f52 0) (encSt S52_0 ((v2, v3, ()), ())) =
    bif decide (v3 < (((v2.length : Nat) : Int))) then (
      bif decide (v3 ≤ 8) then (
        bif decide (0 ≤ v3) then (
          (nth v2 v3.toNat).bind fun cs4 =>
          bif Nat.beq ((cs4.drop 0).take 6).length 6 then (
            decCts [.int .i64, .int .i64, .int .i64, .int .i64, .int .i64, .int .i64] ((cs4.drop 0).take 6) fun c5 =>
            callT (lvl Try.prog HH (n + 0)).2 63 [.s (.agg true [.v (.int .i64 c5.1), .v (.int .i64 c5.2.1), .v (.int .i64 c5.2.2.1), .v (.int .i64 c5.2.2.2.1), .v (.int .i64 c5.2.2.2.2.1), .v (.int .i64 c5.2.2.2.2.2.1)])] [] outs63 mouts63 fun y6 m7 =>
            bif !y6.1 then (
              some (.ret, encSt S52_0_r ((false, ()), ())))
            else
            letIn (IntKind.wrap .i64 (v3 + 1) : Int) fun n8 =>
            (lvl Try.prog HH (n + 0)).1 ⟨52, 0, true⟩ 0 (loopOf Try.f52 0) (encSt S52_0 ((v2, n8, ()), ())))
          else
          none)
        else
        none)
      else
      some (.exit 0, encSt S52_0_e0 ((v2, ()), ())))
    else
    some (.exit 0, encSt S52_0_e0 ((v2, ()), ())) := by kernel_rfl

theorem fn52 (n : Nat) (l1 : List (List D1)) : (lvl Try.prog HH (n + 1)).2 52 [.s (.one (.fr 6 l1))] [] =
    ((lvl Try.prog HH (n + 0)).1 ⟨52, 0, true⟩ 0 (loopOf Try.f52 0) (encSt S52_0 ((l1, 0, ()), ()))).bind fun p9 =>
    bif sameEx (.ret) p9.1 then (decSt S52_0_r p9.2 fun x10 =>
      some (.s (.one (.v (.bool x10.1.1))), []))
    else
    bif sameEx (.exit 0) p9.1 then (decSt S52_0_e0 p9.2 fun x11 =>
      bif decide ((((x11.1.1.length : Nat) : Int)) ≥ 1) then (
        some (.s (.one (.v (.bool (decide ((((x11.1.1.length : Nat) : Int)) ≤ 8))))), []))
      else
      some (.s (.one (.v (.bool false))), []))
    else
    none := by kernel_rfl

/-! armplan/armplanref10.Dot -/
theorem fn53 (n : Nat) (n1 : Int) (n2 : Int) (n3 : Int) (v4 : Int) (v5 : Int) (v6 : Int) (v7 : Int) (v8 : Int) (v9 : Int) : (lvl Try.prog HH (n + 5)).2 53 [.s (.agg true [.v (.int .i64 n1), .v (.int .i64 n2), .v (.int .i64 n3)]), .s (.agg true [.v (.int .i64 v4), .v (.int .i64 v5), .v (.int .i64 v6), .v (.int .i64 v7), .v (.int .i64 v8), .v (.int .i64 v9)])] [] =
    callT (lvl Try.prog HH (n + 4)).2 31 [.s (.agg true [.v (.int .i64 n1), .v (.int .i64 n2), .v (.int .i64 n3)])] [] outs31 mouts31 fun y10 m11 =>
    bif !y10.1 then (
      some (.tup [.one (.v (.int .i64 0)), .one (.v (.int .i64 0))], []))
    else
    callT (lvl Try.prog HH (n + 4)).2 63 [.s (.agg true [.v (.int .i64 v4), .v (.int .i64 v5), .v (.int .i64 v6), .v (.int .i64 v7), .v (.int .i64 v8), .v (.int .i64 v9)])] [] outs63 mouts63 fun y12 m13 =>
    bif !y12.1 then (
      some (.tup [.one (.v (.int .i64 0)), .one (.v (.int .i64 0))], []))
    else
    letIn (IntKind.wrap .i64 (n1 * v4) : Int) fun n14 =>
    letIn (IntKind.wrap .i64 (n1 * v5) : Int) fun n15 =>
    letIn (if n15 < n14 then n15 else n14 : Int) fun n16 =>
    letIn (IntKind.wrap .i64 (0 + n16) : Int) fun n17 =>
    letIn (if n15 > n14 then n15 else n14 : Int) fun n18 =>
    letIn (IntKind.wrap .i64 (0 + n18) : Int) fun n19 =>
    letIn (IntKind.wrap .i64 (n2 * v6) : Int) fun n20 =>
    letIn (IntKind.wrap .i64 (n2 * v7) : Int) fun n21 =>
    letIn (if n21 < n20 then n21 else n20 : Int) fun n22 =>
    letIn (IntKind.wrap .i64 (n17 + n22) : Int) fun n23 =>
    letIn (if n21 > n20 then n21 else n20 : Int) fun n24 =>
    letIn (IntKind.wrap .i64 (n19 + n24) : Int) fun n25 =>
    letIn (IntKind.wrap .i64 (n3 * v8) : Int) fun n26 =>
    letIn (IntKind.wrap .i64 (n3 * v9) : Int) fun n27 =>
    letIn (if n27 < n26 then n27 else n26 : Int) fun n28 =>
    letIn (IntKind.wrap .i64 (n23 + n28) : Int) fun n29 =>
    letIn (if n27 > n26 then n27 else n26 : Int) fun n30 =>
    letIn (IntKind.wrap .i64 (n25 + n30) : Int) fun n31 =>
    some (.tup [.one (.v (.int .i64 n29)), .one (.v (.int .i64 n31))], []) := by kernel_rfl

/-! armplan/armplanref10.Least -/
theorem loop40_0 (n : Nat) (v9 : List (List D1)) (v10 : Int) (v11 : Int) (v12 : Int) (c13 : Int) (c14 : Int) (c15 : Int) : (lvl Try.prog HH (n + 1)).1 ⟨40, 0, true⟩ 0 (loopOf Try.f40 0) (encSt S40_0 ((v9, (), v10, v11, v12, ()), ((c13, c14, c15, ()), ()))) =
    bif decide (v12 < (((v9.length : Nat) : Int))) then (
      bif decide (0 ≤ v12) then (
        (nth v9 v12.toNat).bind fun cs16 =>
        bif Nat.beq ((cs16.drop 0).take 6).length 6 then (
          decCts [.int .i64, .int .i64, .int .i64, .int .i64, .int .i64, .int .i64] ((cs16.drop 0).take 6) fun c17 =>
          callT (lvl Try.prog HH (n + 0)).2 53 [.s (.agg true [.v (.int .i64 c13), .v (.int .i64 c14), .v (.int .i64 c15)]), .s (.agg true [.v (.int .i64 c17.1), .v (.int .i64 c17.2.1), .v (.int .i64 c17.2.2.1), .v (.int .i64 c17.2.2.2.1), .v (.int .i64 c17.2.2.2.2.1), .v (.int .i64 c17.2.2.2.2.2.1)])] [] outs53 mouts53 fun y18 m19 =>
          bif v12 == 0 then (
            letIn (IntKind.wrap .i64 (v12 + 1) : Int) fun n20 =>
            (lvl Try.prog HH (n + 0)).1 ⟨40, 0, true⟩ 0 (loopOf Try.f40 0) (encSt S40_0 ((v9, (), y18.1, v12, n20, ()), ((c13, c14, c15, ()), ()))))
          else
          bif decide (y18.1 < v10) then (
            letIn (IntKind.wrap .i64 (v12 + 1) : Int) fun n21 =>
            (lvl Try.prog HH (n + 0)).1 ⟨40, 0, true⟩ 0 (loopOf Try.f40 0) (encSt S40_0 ((v9, (), y18.1, v12, n21, ()), ((c13, c14, c15, ()), ()))))
          else
          letIn (IntKind.wrap .i64 (v12 + 1) : Int) fun n22 =>
          (lvl Try.prog HH (n + 0)).1 ⟨40, 0, true⟩ 0 (loopOf Try.f40 0) (encSt S40_0 ((v9, (), v10, v11, n22, ()), ((c13, c14, c15, ()), ()))))
        else
        none)
      else
      none)
    else
    some (.exit 0, encSt S40_0_e0 ((v10, v11, ()), ())) := by kernel_rfl

theorem fn40 (n : Nat) (n1 : Int) (n2 : Int) (n3 : Int) (l4 : List (List D1)) : (lvl Try.prog HH (n + 1)).2 40 [.s (.agg true [.v (.int .i64 n1), .v (.int .i64 n2), .v (.int .i64 n3)]), .s (.one (.fr 6 l4))] [] =
    callT (lvl Try.prog HH (n + 0)).2 31 [.s (.agg true [.v (.int .i64 n1), .v (.int .i64 n2), .v (.int .i64 n3)])] [] outs31 mouts31 fun y5 m6 =>
    bif !y5.1 then (
      some (.tup [.one (.v (.int .i64 0)), .one (.v (.int .i64 0)), .one (.v (.bool false))], []))
    else
    callT (lvl Try.prog HH (n + 0)).2 52 [.s (.one (.fr 6 l4))] [] outs52 mouts52 fun y7 m8 =>
    bif !y7.1 then (
      some (.tup [.one (.v (.int .i64 0)), .one (.v (.int .i64 0)), .one (.v (.bool false))], []))
    else
    ((lvl Try.prog HH (n + 0)).1 ⟨40, 0, true⟩ 0 (loopOf Try.f40 0) (encSt S40_0 ((l4, (), 0, 0, 0, ()), ((n1, n2, n3, ()), ())))).bind fun p23 =>
    bif sameEx (.exit 0) p23.1 then (decSt S40_0_e0 p23.2 fun x24 =>
      some (.tup [.one (.v (.int .i64 x24.1.1)), .one (.v (.int .i64 x24.1.2.1)), .one (.v (.bool true))], []))
    else
    none := by kernel_rfl

/-! armplan/armplanref10.Greatest -/
theorem loop41_0 (n : Nat) (v9 : List (List D1)) (v10 : Int) (v11 : Int) (v12 : Int) (c13 : Int) (c14 : Int) (c15 : Int) : (lvl Try.prog HH (n + 1)).1 ⟨41, 0, true⟩ 0 (loopOf Try.f41 0) (encSt S41_0 ((v9, (), v10, v11, v12, ()), ((c13, c14, c15, ()), ()))) =
    bif decide (v12 < (((v9.length : Nat) : Int))) then (
      bif decide (0 ≤ v12) then (
        (nth v9 v12.toNat).bind fun cs16 =>
        bif Nat.beq ((cs16.drop 0).take 6).length 6 then (
          decCts [.int .i64, .int .i64, .int .i64, .int .i64, .int .i64, .int .i64] ((cs16.drop 0).take 6) fun c17 =>
          callT (lvl Try.prog HH (n + 0)).2 53 [.s (.agg true [.v (.int .i64 c13), .v (.int .i64 c14), .v (.int .i64 c15)]), .s (.agg true [.v (.int .i64 c17.1), .v (.int .i64 c17.2.1), .v (.int .i64 c17.2.2.1), .v (.int .i64 c17.2.2.2.1), .v (.int .i64 c17.2.2.2.2.1), .v (.int .i64 c17.2.2.2.2.2.1)])] [] outs53 mouts53 fun y18 m19 =>
          bif v12 == 0 then (
            letIn (IntKind.wrap .i64 (v12 + 1) : Int) fun n20 =>
            (lvl Try.prog HH (n + 0)).1 ⟨41, 0, true⟩ 0 (loopOf Try.f41 0) (encSt S41_0 ((v9, (), y18.2.1, v12, n20, ()), ((c13, c14, c15, ()), ()))))
          else
          bif decide (y18.2.1 > v10) then (
            letIn (IntKind.wrap .i64 (v12 + 1) : Int) fun n21 =>
            (lvl Try.prog HH (n + 0)).1 ⟨41, 0, true⟩ 0 (loopOf Try.f41 0) (encSt S41_0 ((v9, (), y18.2.1, v12, n21, ()), ((c13, c14, c15, ()), ()))))
          else
          letIn (IntKind.wrap .i64 (v12 + 1) : Int) fun n22 =>
          (lvl Try.prog HH (n + 0)).1 ⟨41, 0, true⟩ 0 (loopOf Try.f41 0) (encSt S41_0 ((v9, (), v10, v11, n22, ()), ((c13, c14, c15, ()), ()))))
        else
        none)
      else
      none)
    else
    some (.exit 0, encSt S41_0_e0 ((v10, v11, ()), ())) := by kernel_rfl

theorem fn41 (n : Nat) (n1 : Int) (n2 : Int) (n3 : Int) (l4 : List (List D1)) : (lvl Try.prog HH (n + 1)).2 41 [.s (.agg true [.v (.int .i64 n1), .v (.int .i64 n2), .v (.int .i64 n3)]), .s (.one (.fr 6 l4))] [] =
    callT (lvl Try.prog HH (n + 0)).2 31 [.s (.agg true [.v (.int .i64 n1), .v (.int .i64 n2), .v (.int .i64 n3)])] [] outs31 mouts31 fun y5 m6 =>
    bif !y5.1 then (
      some (.tup [.one (.v (.int .i64 0)), .one (.v (.int .i64 0)), .one (.v (.bool false))], []))
    else
    callT (lvl Try.prog HH (n + 0)).2 52 [.s (.one (.fr 6 l4))] [] outs52 mouts52 fun y7 m8 =>
    bif !y7.1 then (
      some (.tup [.one (.v (.int .i64 0)), .one (.v (.int .i64 0)), .one (.v (.bool false))], []))
    else
    ((lvl Try.prog HH (n + 0)).1 ⟨41, 0, true⟩ 0 (loopOf Try.f41 0) (encSt S41_0 ((l4, (), 0, 0, 0, ()), ((n1, n2, n3, ()), ())))).bind fun p23 =>
    bif sameEx (.exit 0) p23.1 then (decSt S41_0_e0 p23.2 fun x24 =>
      some (.tup [.one (.v (.int .i64 x24.1.1)), .one (.v (.int .i64 x24.1.2.1)), .one (.v (.bool true))], []))
    else
    none := by kernel_rfl

end Go.Proofs.Ytanjfmogmlgphaa.Am
