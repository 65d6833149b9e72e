/- PRINTED by amprint.py: what the abstract machine answers, function by function. -/
import Derived.Test.YtfpdjpleplhcgaaH
import Derived.KernelRfl
set_option linter.unusedVariables false
set_option maxRecDepth 100000
namespace Go.Proofs.Ytfpdjpleplhcgaa.Am
open Go Go.Proofs

/-! armplan/support.Dot -/
theorem fn110 (n : Nat) (n1 : Int) (n2 : Int) (n3 : Int) (v4 : Int) (v5 : Int) (v6 : Int) (v7 : Int) (v8 : Int) (v9 : Int) : (lvl Try.prog HH (n + 1)).2 110 [.s (.agg true [.v (.int .i64 n1), .v (.int .i64 n2), .v (.int .i64 n3)]), .s (.agg true [.v (.int .i64 v4), .v (.int .i64 v5), .v (.int .i64 v6), .v (.int .i64 v7), .v (.int .i64 v8), .v (.int .i64 v9)])] [] =
    callT (lvl Try.prog HH (n + 0)).2 75 [.s (.agg true [.v (.int .i64 n1), .v (.int .i64 n2), .v (.int .i64 n3)])] [] outs75 mouts75 fun y10 m11 =>
    bif !y10.1 then (
      some (.tup [.one (.v (.int .i64 0)), .one (.v (.int .i64 0))], []))
    else
    callT (lvl Try.prog HH (n + 0)).2 99 [.s (.one (.fr 6 [[.v (.int .i64 v4), .v (.int .i64 v5), .v (.int .i64 v6), .v (.int .i64 v7), .v (.int .i64 v8), .v (.int .i64 v9)]]))] [] outs99 mouts99 fun y12 m13 =>
    bif !y12.1 then (
      some (.tup [.one (.v (.int .i64 0)), .one (.v (.int .i64 0))], []))
    else
    callT (lvl Try.prog HH (n + 0)).2 144 [.s (.agg true [.v (.int .i64 n1), .v (.int .i64 n2), .v (.int .i64 n3)]), .s (.agg true [.v (.int .i64 v4), .v (.int .i64 v5), .v (.int .i64 v6), .v (.int .i64 v7), .v (.int .i64 v8), .v (.int .i64 v9)])] [] outs144 mouts144 fun y14 m15 =>
    some (.tup [.one (.v (.int .i64 y14.1)), .one (.v (.int .i64 y14.2.1))], []) := by kernel_rfl

/-! armplan/fixed.Root -/
theorem loop170_0 (n : Nat) (v2 : Int) (v3 : Int) (v4 : Int) : (lvl Try.prog HH (n + 1)).1 ⟨170, 0, true⟩ 0 (loopOf Try.f170 0) (encSt S170_0 ((v2, v3, v4, ()), ())) =
    bif decide (v4 < 32) then (
      letIn (IntKind.wrap .i64 (31 - v4) : Int) fun n5 =>
      bif decide (n5 < 0) then (
        none)
      else
      letIn (IntKind.wrap .i64 (1 * (2 ^ min n5.toNat 64)) : Int) fun n6 =>
      letIn (IntKind.wrap .i64 (v3 + n6) : Int) fun n7 =>
      bif n7 == 0 then (
        none)
      else
      letIn (IntKind.wrap .i64 (Int.tdiv v2 n7) : Int) fun n8 =>
      bif decide (n7 ≤ n8) then (
        letIn (IntKind.wrap .i64 (v4 + 1) : Int) fun n9 =>
        (lvl Try.prog HH (n + 0)).1 ⟨170, 0, true⟩ 0 (loopOf Try.f170 0) (encSt S170_0 ((v2, n7, n9, ()), ())))
      else
      letIn (IntKind.wrap .i64 (v4 + 1) : Int) fun n10 =>
      (lvl Try.prog HH (n + 0)).1 ⟨170, 0, true⟩ 0 (loopOf Try.f170 0) (encSt S170_0 ((v2, v3, n10, ()), ())))
    else
    some (.exit 0, encSt S170_0_e0 ((v3, ()), ())) := by kernel_rfl

theorem fn170 (n : Nat) (n1 : Int) : (lvl Try.prog HH (n + 1)).2 170 [.s (.one (.v (.int .i64 n1)))] [] =
    bif decide (n1 ≤ 0) then (
      some (.s (.one (.v (.int .i64 0))), []))
    else
    ((lvl Try.prog HH (n + 0)).1 ⟨170, 0, true⟩ 0 (loopOf Try.f170 0) (encSt S170_0 ((n1, 0, 0, ()), ()))).bind fun p11 =>
    bif sameEx (.exit 0) p11.1 then (decSt S170_0_e0 p11.2 fun x12 =>
      some (.s (.one (.v (.int .i64 x12.1.1))), []))
    else
    none := by kernel_rfl

/-! armplan/fixed.RootUp -/
theorem fn120 (n : Nat) (n1 : Int) : (lvl Try.prog HH (n + 1)).2 120 [.s (.one (.v (.int .i64 n1)))] [] =
    callT (lvl Try.prog HH (n + 0)).2 170 [.s (.one (.v (.int .i64 n1)))] [] outs170 mouts170 fun y2 m3 =>
    letIn (IntKind.wrap .i64 (y2.1 * y2.1) : Int) fun n4 =>
    bif decide (n4 < n1) then (
      letIn (IntKind.wrap .i64 (y2.1 + 1) : Int) fun n5 =>
      some (.s (.one (.v (.int .i64 n5))), []))
    else
    some (.s (.one (.v (.int .i64 y2.1))), []) := by kernel_rfl

/-! armplan/support.Norm -/
theorem fn77 (n : Nat) (n1 : Int) (n2 : Int) (n3 : Int) : (lvl Try.prog HH (n + 1)).2 77 [.s (.agg true [.v (.int .i64 n1), .v (.int .i64 n2), .v (.int .i64 n3)])] [] =
    callT (lvl Try.prog HH (n + 0)).2 75 [.s (.agg true [.v (.int .i64 n1), .v (.int .i64 n2), .v (.int .i64 n3)])] [] outs75 mouts75 fun y4 m5 =>
    bif !y4.1 then (
      some (.s (.one (.v (.int .i64 0))), []))
    else
    letIn (IntKind.wrap .i64 (n1 * n1) : Int) fun n6 =>
    letIn (IntKind.wrap .i64 (n2 * n2) : Int) fun n7 =>
    letIn (IntKind.wrap .i64 (n6 + n7) : Int) fun n8 =>
    letIn (IntKind.wrap .i64 (n3 * n3) : Int) fun n9 =>
    letIn (IntKind.wrap .i64 (n8 + n9) : Int) fun n10 =>
    callT (lvl Try.prog HH (n + 0)).2 120 [.s (.one (.v (.int .i64 n10)))] [] outs120 mouts120 fun y11 m12 =>
    some (.s (.one (.v (.int .i64 y11.1))), []) := by kernel_rfl

/-! armplan/armplanlaw13.awake -/
theorem fn54 (n : Nat)  : (lvl Try.prog HH (n + 1)).2 54 [] [] =
    callT (lvl Try.prog HH (n + 0)).2 110 [.s (.agg true [.v (.int .i64 1), .v (.int .i64 (-2)), .v (.int .i64 0)]), .s (.agg true [.v (.int .i64 0), .v (.int .i64 1), .v (.int .i64 3), .v (.int .i64 4), .v (.int .i64 5), .v (.int .i64 5)])] [] outs110 mouts110 fun y1 m2 =>
    bif y1.1 == (-8) then (
      bif y1.2.1 == (-5) then (
        callT (lvl Try.prog HH (n + 0)).2 77 [.s (.agg true [.v (.int .i64 1), .v (.int .i64 1), .v (.int .i64 1)])] [] outs77 mouts77 fun y3 m4 =>
        some (.s (.one (.v (.bool (y3.1 == 2)))), []))
      else
      some (.s (.one (.v (.bool false))), []))
    else
    some (.s (.one (.v (.bool false))), []) := by kernel_rfl

/-! armplan/armplanlaw13.SupportShift -/
theorem loop29_0 (n : Nat) (v15 : List (List D1)) (v16 : Int) (c17 : Int) (c18 : Int) (c19 : Int) (c20 : Int) (c21 : Int) (c22 : Int) (es23 : List (List D1)) : (lvl Try.prog HH (n + 1)).1 ⟨29, 0, true⟩ 0 (loopOf Try.f29 0) (encSt S29_0 (((), (), v15, (), v16, ()), ((c17, c18, c19, ()), (c20, c21, c22, ()), es23, ()))) =
    bif decide (v16 < (((v15.length : Nat) : Int))) then (
      bif decide (0 ≤ v16) then (
        (nth v15 v16.toNat).bind fun cs24 =>
        bif Nat.beq ((cs24.drop 0).take 6).length 6 then (
          decCts [.int .i64, .int .i64, .int .i64, .int .i64, .int .i64, .int .i64] ((cs24.drop 0).take 6) fun c25 =>
          callT (lvl Try.prog HH (n + 0)).2 87 [.s (.agg true [.v (.int .i64 c17), .v (.int .i64 c18), .v (.int .i64 c19)])] [] outs87 mouts87 fun y26 m27 =>
          callT (lvl Try.prog HH (n + 0)).2 86 [.s (.agg true [.v (.int .i64 c25.1), .v (.int .i64 c25.2.1), .v (.int .i64 c25.2.2.1), .v (.int .i64 c25.2.2.2.1), .v (.int .i64 c25.2.2.2.2.1), .v (.int .i64 c25.2.2.2.2.2.1)]), .s (.agg true [.v (.int .i64 y26.1.1), .v (.int .i64 y26.1.2.1), .v (.int .i64 y26.1.2.2.1), .v (.int .i64 y26.1.2.2.2.1), .v (.int .i64 y26.1.2.2.2.2.1), .v (.int .i64 y26.1.2.2.2.2.2.1)])] [] outs86 mouts86 fun y28 m29 =>
          bif decide ((es23.length + 1) * 48 ≤ 140737488355328) then (
            letIn (IntKind.wrap .i64 (v16 + 1) : Int) fun n30 =>
            (lvl Try.prog HH (n + 0)).1 ⟨29, 0, true⟩ 0 (loopOf Try.f29 0) (encSt S29_0 (((), (), v15, (), n30, ()), ((c17, c18, c19, ()), (c20, c21, c22, ()), (es23 ++ ([[.v (.int .i64 y28.1.1), .v (.int .i64 y28.1.2.1), .v (.int .i64 y28.1.2.2.1), .v (.int .i64 y28.1.2.2.2.1), .v (.int .i64 y28.1.2.2.2.2.1), .v (.int .i64 y28.1.2.2.2.2.2.1)]] : List (List D1))), ()))))
          else
          none)
        else
        none)
      else
      none)
    else
    some (.exit 0, encSt S29_0_e0 (((), (), v15, (), ()), ((c17, c18, c19, ()), (c20, c21, c22, ()), es23, ()))) := by kernel_rfl

theorem fn29 (n : Nat) (a1 : Int) (b2 : Int) (c3 : Int) (l4 : List (List D1)) (t5 : Int) (t6 : Int) (t7 : Int) : (lvl Try.prog HH (n + 1)).2 29 [.s (.one (.v (.int .i64 a1))), .s (.one (.v (.int .i64 b2))), .s (.one (.v (.int .i64 c3))), .s (.one (.fr 1 l4)), .s (.agg true [.v (.int .i64 t5), .v (.int .i64 t6), .v (.int .i64 t7)])] [] =
    callT (lvl Try.prog HH (n + 0)).2 53 [.s (.one (.v (.int .i64 a1))), .s (.one (.v (.int .i64 b2))), .s (.one (.v (.int .i64 c3)))] [] outs53 mouts53 fun y8 m9 =>
    callT (lvl Try.prog HH (n + 0)).2 34 [.s (.one (.fr 1 l4)), .s (.one (.v (.int .i64 3000)))] [] outs34 mouts34 fun y10 m11 =>
    letIn (Int.fdiv t5 1099511627776 : Int) fun n12 =>
    letIn (Int.fdiv t6 1099511627776 : Int) fun n13 =>
    letIn (Int.fdiv t7 1099511627776 : Int) fun n14 =>
    ((lvl Try.prog HH (n + 0)).1 ⟨29, 0, true⟩ 0 (loopOf Try.f29 0) (encSt S29_0 (((), (), y10.1, (), 0, ()), ((n12, n13, n14, ()), (y8.1.1, y8.1.2.1, y8.1.2.2.1, ()), [], ())))).bind fun p31 =>
    bif sameEx (.exit 0) p31.1 then (decSt S29_0_e0 p31.2 fun x32 =>
      letIn (IntKind.wrap .i64 (x32.2.2.1.1 * x32.2.1.1) : Int) fun n33 =>
      letIn (IntKind.wrap .i64 (x32.2.2.1.2.1 * x32.2.1.2.1) : Int) fun n34 =>
      letIn (IntKind.wrap .i64 (n33 + n34) : Int) fun n35 =>
      letIn (IntKind.wrap .i64 (x32.2.2.1.2.2.1 * x32.2.1.2.2.1) : Int) fun n36 =>
      letIn (IntKind.wrap .i64 (n35 + n36) : Int) fun n37 =>
      callT (lvl Try.prog HH (n + 0)).2 84 [.s (.agg true [.v (.int .i64 x32.2.2.1.1), .v (.int .i64 x32.2.2.1.2.1), .v (.int .i64 x32.2.2.1.2.2.1)]), .s (.one (.fr 6 x32.1.2.2.1))] [] outs84 mouts84 fun y38 m39 =>
      callT (lvl Try.prog HH (n + 0)).2 84 [.s (.agg true [.v (.int .i64 x32.2.2.1.1), .v (.int .i64 x32.2.2.1.2.1), .v (.int .i64 x32.2.2.1.2.2.1)]), .s (.one (.fr 6 x32.2.2.2.1))] [] outs84 mouts84 fun y40 m41 =>
      callT (lvl Try.prog HH (n + 0)).2 85 [.s (.agg true [.v (.int .i64 x32.2.2.1.1), .v (.int .i64 x32.2.2.1.2.1), .v (.int .i64 x32.2.2.1.2.2.1)]), .s (.one (.fr 6 x32.1.2.2.1))] [] outs85 mouts85 fun y42 m43 =>
      callT (lvl Try.prog HH (n + 0)).2 85 [.s (.agg true [.v (.int .i64 x32.2.2.1.1), .v (.int .i64 x32.2.2.1.2.1), .v (.int .i64 x32.2.2.1.2.2.1)]), .s (.one (.fr 6 x32.2.2.2.1))] [] outs85 mouts85 fun y44 m45 =>
      callT (lvl Try.prog HH (n + 0)).2 54 [] [] outs54 mouts54 fun y46 m47 =>
      bif y46.1 then (
        bif y38.2.2.1 then (
          bif y40.2.2.1 then (
            bif y42.2.2.1 then (
              bif y44.2.2.1 then (
                letIn (IntKind.wrap .i64 (y38.1 + n37) : Int) fun n48 =>
                bif y40.1 == n48 then (
                  letIn (IntKind.wrap .i64 (y42.1 + n37) : Int) fun n49 =>
                  bif y44.1 == n49 then (
                    some (.s (.one (.v (.bool (y38.2.1 == y40.2.1)))), []))
                  else
                  some (.s (.one (.v (.bool false))), []))
                else
                some (.s (.one (.v (.bool false))), []))
              else
              some (.s (.one (.v (.bool false))), []))
            else
            some (.s (.one (.v (.bool false))), []))
          else
          some (.s (.one (.v (.bool false))), []))
        else
        some (.s (.one (.v (.bool false))), []))
      else
      some (.s (.one (.v (.bool false))), []))
    else
    none := by kernel_rfl

end Go.Proofs.Ytfpdjpleplhcgaa.Am
