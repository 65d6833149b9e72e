/- PRINTED by amprint.py: what the abstract machine answers, function by function. -/
import Derived.Test.YtfpdjpleplhcgaaH
import Derived.KernelRfl
set_option linter.unusedVariables false
set_option maxRecDepth 100000
namespace Go.Proofs.Ytfpdjpleplhcgaa.Am
open Go Go.Proofs

/-! armplan/shape.least -/
theorem loop101_0 (n : Nat) (v3 : Int) (v4 : List (List D1)) (v5 : Int) (v6 : Int) : (lvl Try.prog HH (n + 1)).1 ⟨101, 0, true⟩ 0 (loopOf Try.f101 0) (encSt S101_0 ((v3, v4, v5, v6, ()), ())) =
    bif decide (v6 < v5) then (
      bif decide (0 ≤ v6) then (
        (nth v4 v6.toNat).bind fun cs7 =>
        (nth cs7 0).bind fun d8 =>
        (asInt? .i64 d8).bind fun n9 =>
        letIn (if n9 < v3 then n9 else v3 : Int) fun n10 =>
        letIn (IntKind.wrap .i64 (v6 + 1) : Int) fun n11 =>
        (lvl Try.prog HH (n + 0)).1 ⟨101, 0, true⟩ 0 (loopOf Try.f101 0) (encSt S101_0 ((n10, v4, v5, n11, ()), ())))
      else
      none)
    else
    some (.exit 0, encSt S101_0_e0 ((v3, ()), ())) := by kernel_rfl

theorem fn101 (n : Nat) (first1 : Int) (l2 : List (List D1)) : (lvl Try.prog HH (n + 1)).2 101 [.s (.one (.v (.int .i64 first1))), .s (.one (.fr 1 l2))] [] =
    ((lvl Try.prog HH (n + 0)).1 ⟨101, 0, true⟩ 0 (loopOf Try.f101 0) (encSt S101_0 ((first1, l2, (((l2.length : Nat) : Int)), 0, ()), ()))).bind fun p12 =>
    bif sameEx (.exit 0) p12.1 then (decSt S101_0_e0 p12.2 fun x13 =>
      some (.s (.one (.v (.int .i64 x13.1.1))), []))
    else
    none := by kernel_rfl

/-! armplan/shape.Bound -/
theorem loop42_0 (n : Nat) (v5 : List (List D1)) (v6 : Int) (v7 : Int) (c8 : Int) (c9 : Int) (c10 : Int) (c11 : Int) (c12 : Int) (c13 : Int) (c14 : Int) (c15 : Int) (c16 : Int) (c17 : Int) (c18 : Int) (c19 : Int) : (lvl Try.prog HH (n + 1)).1 ⟨42, 0, true⟩ 0 (loopOf Try.f42 0) (encSt S42_0 ((v5, v6, (), (), v7, ()), ((c8, c9, c10, c11, c12, c13, ()), (c14, c15, c16, c17, c18, c19, ()), ()))) =
    bif decide (v7 < 3) then (
      ((lvl Try.prog HH (n + 0)).1 ⟨42, 0, true⟩ 2 (loopOf Try.f42 2) (encSt S42_2 ((v5, v6, (), (), v7, (), (), v7, v5, (((v5.length : Nat) : Int)), 0, ()), ((c8, c9, c10, c11, c12, c13, ()), (c14, c15, c16, c17, c18, c19, ()), [], [], ())))).bind fun p49 =>
      bif sameEx (.exit 2) p49.1 then (decSt S42_2_e2 p49.2 fun x50 =>
        (nth x50.2.2.2.1 0).bind fun cs51 =>
        (nth x50.2.2.2.1 0).bind fun cs52 =>
        (nth cs52 0).bind fun d53 =>
        (asInt? .i64 d53).bind fun n54 =>
        callT (lvl Try.prog HH (n + 0)).2 101 [.s (.one (.v (.int .i64 n54))), .s (.one (.fr 1 x50.2.2.2.1))] [] outs101 mouts101 fun y55 m56 =>
        letIn (IntKind.wrap .i64 (y55.1 - x50.1.2.1) : Int) fun n57 =>
        (nth x50.2.2.2.2.1 0).bind fun cs58 =>
        (nth x50.2.2.2.2.1 0).bind fun cs59 =>
        (nth cs59 0).bind fun d60 =>
        (asInt? .i64 d60).bind fun n61 =>
        callT (lvl Try.prog HH (n + 0)).2 101 [.s (.one (.v (.int .i64 n61))), .s (.one (.fr 1 x50.2.2.2.2.1))] [] outs101 mouts101 fun y62 m63 =>
        letIn (IntKind.wrap .i64 (x50.1.2.1 - y62.1) : Int) fun n64 =>
        bif (decide (0 ≤ x50.1.2.2.2.2.1)) && (decide (x50.1.2.2.2.2.1 < 3)) then (
          (setCells [.v (.int .i64 x50.2.2.1.1), .v (.int .i64 x50.2.2.1.2.1), .v (.int .i64 x50.2.2.1.2.2.1), .v (.int .i64 x50.2.2.1.2.2.2.1), .v (.int .i64 x50.2.2.1.2.2.2.2.1), .v (.int .i64 x50.2.2.1.2.2.2.2.2.1)] (0 + (x50.1.2.2.2.2.1.toNat * 2)) [.v (.int .i64 n57), .v (.int .i64 n64)]).bind fun cs65 =>
          letIn (IntKind.wrap .i64 (x50.1.2.2.2.2.2.2.2.1 + 1) : Int) fun n66 =>
          decCts [.int .i64, .int .i64, .int .i64, .int .i64, .int .i64, .int .i64] cs65 fun c67 =>
          (lvl Try.prog HH (n + 0)).1 ⟨42, 0, true⟩ 0 (loopOf Try.f42 0) (encSt S42_0 ((x50.1.1, x50.1.2.1, (), (), n66, ()), ((x50.2.1.1, x50.2.1.2.1, x50.2.1.2.2.1, x50.2.1.2.2.2.1, x50.2.1.2.2.2.2.1, x50.2.1.2.2.2.2.2.1, ()), (c67.1, c67.2.1, c67.2.2.1, c67.2.2.2.1, c67.2.2.2.2.1, c67.2.2.2.2.2.1, ()), ()))))
        else
        none)
      else
      none)
    else
    some (.exit 0, encSt S42_0_e0 (((), (), ()), ((c8, c9, c10, c11, c12, c13, ()), (c14, c15, c16, c17, c18, c19, ()), ()))) := by kernel_rfl

theorem loop42_2 (n : Nat) (v20 : List (List D1)) (v21 : Int) (v22 : Int) (v23 : Int) (v24 : List (List D1)) (v25 : Int) (v26 : Int) (c27 : Int) (c28 : Int) (c29 : Int) (c30 : Int) (c31 : Int) (c32 : Int) (c33 : Int) (c34 : Int) (c35 : Int) (c36 : Int) (c37 : Int) (c38 : Int) (es39 : List (List D1)) (es40 : List (List D1)) : (lvl Try.prog HH (n + 1)).1 ⟨42, 0, true⟩ 2 (loopOf Try.f42 2) (encSt S42_2 ((v20, v21, (), (), v22, (), (), v23, v24, v25, v26, ()), ((c27, c28, c29, c30, c31, c32, ()), (c33, c34, c35, c36, c37, c38, ()), es39, es40, ()))) =
    bif decide (v26 < v25) then (
      bif decide (0 ≤ v26) then (
        (nth v24 v26.toNat).bind fun cs41 =>
        bif Nat.beq ((cs41.drop 0).take 6).length 6 then (
          decCts [.int .i64, .int .i64, .int .i64, .int .i64, .int .i64, .int .i64] ((cs41.drop 0).take 6) fun c42 =>
          bif (decide (0 ≤ v22)) && (decide (v22 < 3)) then (
            (nth ([.v (.int .i64 c42.1), .v (.int .i64 c42.2.1), .v (.int .i64 c42.2.2.1), .v (.int .i64 c42.2.2.2.1), .v (.int .i64 c42.2.2.2.2.1), .v (.int .i64 c42.2.2.2.2.2.1)] : List D1) (0 + (v22.toNat * 2))).bind fun d43 =>
            (asInt? .i64 d43).bind fun n44 =>
            bif decide ((es39.length + 1) * 8 ≤ 140737488355328) then (
              bif (decide (0 ≤ v22)) && (decide (v22 < 3)) then (
                (nth ([.v (.int .i64 c42.1), .v (.int .i64 c42.2.1), .v (.int .i64 c42.2.2.1), .v (.int .i64 c42.2.2.2.1), .v (.int .i64 c42.2.2.2.2.1), .v (.int .i64 c42.2.2.2.2.2.1)] : List D1) ((0 + (v22.toNat * 2)) + 1)).bind fun d45 =>
                (asInt? .i64 d45).bind fun n46 =>
                letIn (IntKind.wrap .i64 (0 - n46) : Int) fun n47 =>
                bif decide ((es40.length + 1) * 8 ≤ 140737488355328) then (
                  letIn (IntKind.wrap .i64 (v26 + 1) : Int) fun n48 =>
                  (lvl Try.prog HH (n + 0)).1 ⟨42, 0, true⟩ 2 (loopOf Try.f42 2) (encSt S42_2 ((v20, v21, (), (), v22, (), (), v23, v24, v25, n48, ()), ((c27, c28, c29, c30, c31, c32, ()), (c33, c34, c35, c36, c37, c38, ()), (es39 ++ ([[.v (.int .i64 n44)]] : List (List D1))), (es40 ++ ([[.v (.int .i64 n47)]] : List (List D1))), ()))))
                else
                none)
              else
              none)
            else
            none)
          else
          none)
        else
        none)
      else
      none)
    else
    some (.exit 2, encSt S42_2_e2 ((v20, v21, (), (), v22, (), (), v23, ()), ((c27, c28, c29, c30, c31, c32, ()), (c33, c34, c35, c36, c37, c38, ()), es39, es40, ()))) := by kernel_rfl

theorem fn42 (n : Nat) (l1 : List (List D1)) (radius2 : Int) : (lvl Try.prog HH (n + 1)).2 42 [.s (.one (.fr 6 l1)), .s (.one (.v (.int .i64 radius2)))] [] =
    callT (lvl Try.prog HH (n + 0)).2 99 [.s (.one (.fr 6 l1))] [] outs99 mouts99 fun y3 m4 =>
    bif !y3.1 then (
      some (.s (.agg true [.v (.int .i64 0), .v (.int .i64 0), .v (.int .i64 0), .v (.int .i64 0), .v (.int .i64 0), .v (.int .i64 0)]), []))
    else
    bif decide (radius2 < 0) then (
      some (.s (.agg true [.v (.int .i64 0), .v (.int .i64 0), .v (.int .i64 0), .v (.int .i64 0), .v (.int .i64 0), .v (.int .i64 0)]), []))
    else
    bif decide (radius2 > 1048576) then (
      some (.s (.agg true [.v (.int .i64 0), .v (.int .i64 0), .v (.int .i64 0), .v (.int .i64 0), .v (.int .i64 0), .v (.int .i64 0)]), []))
    else
    ((lvl Try.prog HH (n + 0)).1 ⟨42, 0, true⟩ 0 (loopOf Try.f42 0) (encSt S42_0 ((l1, radius2, (), (), 0, ()), ((0, 0, 0, 0, 0, 0, ()), (0, 0, 0, 0, 0, 0, ()), ())))).bind fun p68 =>
    bif sameEx (.exit 0) p68.1 then (decSt S42_0_e0 p68.2 fun x69 =>
      some (.s (.agg true [.v (.int .i64 x69.2.2.1.1), .v (.int .i64 x69.2.2.1.2.1), .v (.int .i64 x69.2.2.1.2.2.1), .v (.int .i64 x69.2.2.1.2.2.2.1), .v (.int .i64 x69.2.2.1.2.2.2.2.1), .v (.int .i64 x69.2.2.1.2.2.2.2.2.1)]), []))
    else
    none := by kernel_rfl

/-! armplan/armplanref1.Clamp -/
theorem fn102 (n : Nat) (a1 : Int) : (lvl Try.prog HH (n + 1)).2 102 [.s (.one (.v (.int .i64 a1)))] [] =
    letIn (if 2147483648 < a1 then 2147483648 else a1 : Int) fun n2 =>
    letIn (if n2 > (-2147483648) then n2 else (-2147483648) : Int) fun n3 =>
    some (.s (.one (.v (.int .i64 n3))), []) := by kernel_rfl

/-! armplan/armplanref1.Of -/
theorem fn47 (n : Nat) (x1 : Int) : (lvl Try.prog HH (n + 1)).2 47 [.s (.one (.v (.int .i64 x1)))] [] =
    callT (lvl Try.prog HH (n + 0)).2 102 [.s (.one (.v (.int .i64 x1)))] [] outs102 mouts102 fun y2 m3 =>
    callT (lvl Try.prog HH (n + 0)).2 102 [.s (.one (.v (.int .i64 x1)))] [] outs102 mouts102 fun y4 m5 =>
    some (.s (.agg true [.v (.int .i64 y2.1), .v (.int .i64 y4.1)]), []) := by kernel_rfl

/-! armplan/armplanref1.Point -/
theorem fn87 (n : Nat) (v1 : Int) (v2 : Int) (v3 : Int) : (lvl Try.prog HH (n + 1)).2 87 [.s (.agg true [.v (.int .i64 v1), .v (.int .i64 v2), .v (.int .i64 v3)])] [] =
    callT (lvl Try.prog HH (n + 0)).2 47 [.s (.one (.v (.int .i64 v1)))] [] outs47 mouts47 fun y4 m5 =>
    callT (lvl Try.prog HH (n + 0)).2 47 [.s (.one (.v (.int .i64 v2)))] [] outs47 mouts47 fun y6 m7 =>
    callT (lvl Try.prog HH (n + 0)).2 47 [.s (.one (.v (.int .i64 v3)))] [] outs47 mouts47 fun y8 m9 =>
    some (.s (.agg true [.v (.int .i64 y4.1.1), .v (.int .i64 y4.1.2.1), .v (.int .i64 y6.1.1), .v (.int .i64 y6.1.2.1), .v (.int .i64 y8.1.1), .v (.int .i64 y8.1.2.1)]), []) := by kernel_rfl

end Go.Proofs.Ytfpdjpleplhcgaa.Am
