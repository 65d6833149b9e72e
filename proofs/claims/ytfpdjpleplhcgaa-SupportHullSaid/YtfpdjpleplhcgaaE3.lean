/- PRINTED by amprint.py: what the abstract machine answers, function by function. -/
import Derived.Test.YtfpdjpleplhcgaaH
import Derived.KernelRfl
set_option linter.unusedVariables false
set_option maxRecDepth 100000
namespace Go.Proofs.Ytfpdjpleplhcgaa.Am
open Go Go.Proofs

/-! armplan/support.Greatest -/
theorem fn85 (n : Nat) (n1 : Int) (n2 : Int) (n3 : Int) (l4 : List (List D1)) : (lvl Try.prog HH (n + 1)).2 85 [.s (.agg true [.v (.int .i64 n1), .v (.int .i64 n2), .v (.int .i64 n3)]), .s (.one (.fr 6 l4))] [] =
    callT (lvl Try.prog HH (n + 0)).2 75 [.s (.agg true [.v (.int .i64 n1), .v (.int .i64 n2), .v (.int .i64 n3)])] [] outs75 mouts75 fun y5 m6 =>
    bif !y5.1 then (
      some (.tup [.one (.v (.int .i64 0)), .one (.v (.int .i64 0)), .one (.v (.bool false))], []))
    else
    callT (lvl Try.prog HH (n + 0)).2 99 [.s (.one (.fr 6 l4))] [] outs99 mouts99 fun y7 m8 =>
    bif !y7.1 then (
      some (.tup [.one (.v (.int .i64 0)), .one (.v (.int .i64 0)), .one (.v (.bool false))], []))
    else
    callT (lvl Try.prog HH (n + 0)).2 146 [.s (.agg false [.clo 147 [.ptr 0 0 0], .v (.func (.func 148) #[] #[])]), .s (.one (.fr 6 l4))] [.own 3 true [[.v (.int .i64 n1), .v (.int .i64 n2), .v (.int .i64 n3)]]] outs146 mouts146 fun y9 m10 =>
    some (.tup [.one (.v (.int .i64 y9.1)), .one (.v (.int .i64 y9.2.1)), .one (.v (.bool true))], []) := by kernel_rfl

/-! armplan/armplanmake.Total -/
theorem loop40_0 (n : Nat) (v2 : List (List D1)) (v3 : Int) (v4 : Int) : (lvl Try.prog HH (n + 1)).1 ⟨40, 0, true⟩ 0 (loopOf Try.f40 0) (encSt S40_0 ((v2, v3, v4, ()), ())) =
    bif decide (v4 < (((v2.length : Nat) : Int))) then (
      bif decide (0 ≤ v4) then (
        (nth v2 v4.toNat).bind fun cs5 =>
        (nth cs5 0).bind fun d6 =>
        (asInt? .i64 d6).bind fun n7 =>
        letIn (IntKind.wrap .i64 (v3 + n7) : Int) fun n8 =>
        letIn (IntKind.wrap .i64 (v4 + 1) : Int) fun n9 =>
        (lvl Try.prog HH (n + 0)).1 ⟨40, 0, true⟩ 0 (loopOf Try.f40 0) (encSt S40_0 ((v2, n8, n9, ()), ())))
      else
      none)
    else
    some (.exit 0, encSt S40_0_e0 ((v3, ()), ())) := by kernel_rfl

theorem fn40 (n : Nat) (l1 : List (List D1)) : (lvl Try.prog HH (n + 1)).2 40 [.s (.one (.fr 1 l1))] [] =
    ((lvl Try.prog HH (n + 0)).1 ⟨40, 0, true⟩ 0 (loopOf Try.f40 0) (encSt S40_0 ((l1, 0, 0, ()), ()))).bind fun p10 =>
    bif sameEx (.exit 0) p10.1 then (decSt S40_0_e0 p10.2 fun x11 =>
      some (.s (.one (.v (.int .i64 x11.1.1))), []))
    else
    none := by kernel_rfl

/-! armplan/support.Dot -/
theorem fn110 (n : Nat) (n1 : Int) (n2 : Int) (n3 : Int) (v4 : Int) (v5 : Int) (v6 : Int) (v7 : Int) (v8 : Int) (v9 : Int) : (lvl Try.prog HH (n + 1)).2 110 [.s (.agg true [.v (.int .i64 n1), .v (.int .i64 n2), .v (.int .i64 n3)]), .s (.agg true [.v (.int .i64 v4), .v (.int .i64 v5), .v (.int .i64 v6), .v (.int .i64 v7), .v (.int .i64 v8), .v (.int .i64 v9)])] [] =
    callT (lvl Try.prog HH (n + 0)).2 75 [.s (.agg true [.v (.int .i64 n1), .v (.int .i64 n2), .v (.int .i64 n3)])] [] outs75 mouts75 fun y10 m11 =>
    bif !y10.1 then (
      some (.tup [.one (.v (.int .i64 0)), .one (.v (.int .i64 0))], []))
    else
    callT (lvl Try.prog HH (n + 0)).2 99 [.s (.one (.fr 6 [[.v (.int .i64 v4), .v (.int .i64 v5), .v (.int .i64 v6), .v (.int .i64 v7), .v (.int .i64 v8), .v (.int .i64 v9)]]))] [] outs99 mouts99 fun y12 m13 =>
    bif !y12.1 then (
      some (.tup [.one (.v (.int .i64 0)), .one (.v (.int .i64 0))], []))
    else
    callT (lvl Try.prog HH (n + 0)).2 144 [.s (.agg true [.v (.int .i64 n1), .v (.int .i64 n2), .v (.int .i64 n3)]), .s (.agg true [.v (.int .i64 v4), .v (.int .i64 v5), .v (.int .i64 v6), .v (.int .i64 v7), .v (.int .i64 v8), .v (.int .i64 v9)])] [] outs144 mouts144 fun y14 m15 =>
    some (.tup [.one (.v (.int .i64 y14.1)), .one (.v (.int .i64 y14.2.1))], []) := by kernel_rfl

/-! armplan/fixed.Root -/
theorem loop170_0 (n : Nat) (v2 : Int) (v3 : Int) (v4 : Int) : (lvl Try.prog HH (n + 1)).1 ⟨170, 0, true⟩ 0 (loopOf Try.f170 0) (encSt S170_0 ((v2, v3, v4, ()), ())) =
    bif decide (v4 < 32) then (
      letIn (IntKind.wrap .i64 (31 - v4) : Int) fun n5 =>
      bif decide (n5 < 0) then (
        none)
      else
      letIn (IntKind.wrap .i64 (1 * (2 ^ min n5.toNat 64)) : Int) fun n6 =>
      letIn (IntKind.wrap .i64 (v3 + n6) : Int) fun n7 =>
      bif n7 == 0 then (
        none)
      else
      letIn (IntKind.wrap .i64 (Int.tdiv v2 n7) : Int) fun n8 =>
      bif decide (n7 ≤ n8) then (
        letIn (IntKind.wrap .i64 (v4 + 1) : Int) fun n9 =>
        (lvl Try.prog HH (n + 0)).1 ⟨170, 0, true⟩ 0 (loopOf Try.f170 0) (encSt S170_0 ((v2, n7, n9, ()), ())))
      else
      letIn (IntKind.wrap .i64 (v4 + 1) : Int) fun n10 =>
      (lvl Try.prog HH (n + 0)).1 ⟨170, 0, true⟩ 0 (loopOf Try.f170 0) (encSt S170_0 ((v2, v3, n10, ()), ())))
    else
    some (.exit 0, encSt S170_0_e0 ((v3, ()), ())) := by kernel_rfl

theorem fn170 (n : Nat) (n1 : Int) : (lvl Try.prog HH (n + 1)).2 170 [.s (.one (.v (.int .i64 n1)))] [] =
    bif decide (n1 ≤ 0) then (
      some (.s (.one (.v (.int .i64 0))), []))
    else
    ((lvl Try.prog HH (n + 0)).1 ⟨170, 0, true⟩ 0 (loopOf Try.f170 0) (encSt S170_0 ((n1, 0, 0, ()), ()))).bind fun p11 =>
    bif sameEx (.exit 0) p11.1 then (decSt S170_0_e0 p11.2 fun x12 =>
      some (.s (.one (.v (.int .i64 x12.1.1))), []))
    else
    none := by kernel_rfl

/-! armplan/fixed.RootUp -/
theorem fn120 (n : Nat) (n1 : Int) : (lvl Try.prog HH (n + 1)).2 120 [.s (.one (.v (.int .i64 n1)))] [] =
    callT (lvl Try.prog HH (n + 0)).2 170 [.s (.one (.v (.int .i64 n1)))] [] outs170 mouts170 fun y2 m3 =>
    letIn (IntKind.wrap .i64 (y2.1 * y2.1) : Int) fun n4 =>
    bif decide (n4 < n1) then (
      letIn (IntKind.wrap .i64 (y2.1 + 1) : Int) fun n5 =>
      some (.s (.one (.v (.int .i64 n5))), []))
    else
    some (.s (.one (.v (.int .i64 y2.1))), []) := by kernel_rfl

/-! armplan/support.Norm -/
theorem fn77 (n : Nat) (n1 : Int) (n2 : Int) (n3 : Int) : (lvl Try.prog HH (n + 1)).2 77 [.s (.agg true [.v (.int .i64 n1), .v (.int .i64 n2), .v (.int .i64 n3)])] [] =
    callT (lvl Try.prog HH (n + 0)).2 75 [.s (.agg true [.v (.int .i64 n1), .v (.int .i64 n2), .v (.int .i64 n3)])] [] outs75 mouts75 fun y4 m5 =>
    bif !y4.1 then (
      some (.s (.one (.v (.int .i64 0))), []))
    else
    letIn (IntKind.wrap .i64 (n1 * n1) : Int) fun n6 =>
    letIn (IntKind.wrap .i64 (n2 * n2) : Int) fun n7 =>
    letIn (IntKind.wrap .i64 (n6 + n7) : Int) fun n8 =>
    letIn (IntKind.wrap .i64 (n3 * n3) : Int) fun n9 =>
    letIn (IntKind.wrap .i64 (n8 + n9) : Int) fun n10 =>
    callT (lvl Try.prog HH (n + 0)).2 120 [.s (.one (.v (.int .i64 n10)))] [] outs120 mouts120 fun y11 m12 =>
    some (.s (.one (.v (.int .i64 y11.1))), []) := by kernel_rfl

/-! armplan/armplanlaw13.awake -/
theorem fn54 (n : Nat)  : (lvl Try.prog HH (n + 1)).2 54 [] [] =
    callT (lvl Try.prog HH (n + 0)).2 110 [.s (.agg true [.v (.int .i64 1), .v (.int .i64 (-2)), .v (.int .i64 0)]), .s (.agg true [.v (.int .i64 0), .v (.int .i64 1), .v (.int .i64 3), .v (.int .i64 4), .v (.int .i64 5), .v (.int .i64 5)])] [] outs110 mouts110 fun y1 m2 =>
    bif y1.1 == (-8) then (
      bif y1.2.1 == (-5) then (
        callT (lvl Try.prog HH (n + 0)).2 77 [.s (.agg true [.v (.int .i64 1), .v (.int .i64 1), .v (.int .i64 1)])] [] outs77 mouts77 fun y3 m4 =>
        some (.s (.one (.v (.bool (y3.1 == 2)))), []))
      else
      some (.s (.one (.v (.bool false))), []))
    else
    some (.s (.one (.v (.bool false))), []) := by kernel_rfl

/-! armplan/armplanlaw13.SupportHull -/
theorem loop28_0 (n : Nat) (v15 : List (List D1)) (v16 : List (List D1)) (v17 : List (List D1)) (v18 : Int) (v19 : Int) (c20 : Int) (c21 : Int) (c22 : Int) : (lvl Try.prog HH (n + 1)).1 ⟨28, 0, true⟩ 0 (loopOf Try.f28 0) (encSt S28_0 (((), v15, v16, v17, v18, v19, ()), ((c20, c21, c22, ()), ()))) =
    bif decide (v19 < (((v17.length : Nat) : Int))) then (
      bif decide (0 ≤ v19) then (
        (nth v16 v19.toNat).bind fun cs23 =>
        (nth cs23 0).bind fun d24 =>
        (asInt? .i64 d24).bind fun n25 =>
        bif decide (0 ≤ v19) then (
          (nth v17 v19.toNat).bind fun cs26 =>
          (nth ((cs26.drop 0).drop 0) 0).bind fun d27 =>
          (asInt? .i64 d27).bind fun n28 =>
          letIn (IntKind.wrap .i64 (c20 * n28) : Int) fun n29 =>
          bif decide (0 ≤ v19) then (
            (nth v17 v19.toNat).bind fun cs30 =>
            (nth ((cs30.drop 2).drop 0) 0).bind fun d31 =>
            (asInt? .i64 d31).bind fun n32 =>
            letIn (IntKind.wrap .i64 (c21 * n32) : Int) fun n33 =>
            letIn (IntKind.wrap .i64 (n29 + n33) : Int) fun n34 =>
            bif decide (0 ≤ v19) then (
              (nth v17 v19.toNat).bind fun cs35 =>
              (nth ((cs35.drop 4).drop 0) 0).bind fun d36 =>
              (asInt? .i64 d36).bind fun n37 =>
              letIn (IntKind.wrap .i64 (c22 * n37) : Int) fun n38 =>
              letIn (IntKind.wrap .i64 (n34 + n38) : Int) fun n39 =>
              letIn (IntKind.wrap .i64 (n25 * n39) : Int) fun n40 =>
              letIn (IntKind.wrap .i64 (v18 + n40) : Int) fun n41 =>
              letIn (IntKind.wrap .i64 (v19 + 1) : Int) fun n42 =>
              (lvl Try.prog HH (n + 0)).1 ⟨28, 0, true⟩ 0 (loopOf Try.f28 0) (encSt S28_0 (((), v15, v16, v17, n41, n42, ()), ((c20, c21, c22, ()), ()))))
            else
            none)
          else
          none)
        else
        none)
      else
      none)
    else
    some (.exit 0, encSt S28_0_e0 (((), v15, v16, v18, ()), ((c20, c21, c22, ()), ()))) := by kernel_rfl

theorem fn28 (n : Nat) (a1 : Int) (b2 : Int) (c3 : Int) (l4 : List (List D1)) (m5 : List (List D1)) (o6 : List (List D1)) : (lvl Try.prog HH (n + 1)).2 28 [.s (.one (.v (.int .i64 a1))), .s (.one (.v (.int .i64 b2))), .s (.one (.v (.int .i64 c3))), .s (.one (.fr 1 l4)), .s (.one (.fr 1 m5)), .s (.one (.fr 1 o6))] [] =
    callT (lvl Try.prog HH (n + 0)).2 53 [.s (.one (.v (.int .i64 a1))), .s (.one (.v (.int .i64 b2))), .s (.one (.v (.int .i64 c3)))] [] outs53 mouts53 fun y7 m8 =>
    callT (lvl Try.prog HH (n + 0)).2 34 [.s (.one (.fr 1 l4)), .s (.one (.v (.int .i64 3000)))] [] outs34 mouts34 fun y9 m10 =>
    callT (lvl Try.prog HH (n + 0)).2 35 [.s (.one (.v (.int .i64 (((y9.1.length : Nat) : Int))))), .s (.one (.fr 1 m5))] [] outs35 mouts35 fun y11 m12 =>
    callT (lvl Try.prog HH (n + 0)).2 39 [.s (.one (.fr 6 y9.1)), .s (.one (.fr 1 o6))] [] outs39 mouts39 fun y13 m14 =>
    ((lvl Try.prog HH (n + 0)).1 ⟨28, 0, true⟩ 0 (loopOf Try.f28 0) (encSt S28_0 (((), y9.1, y11.1, y13.1, 0, 0, ()), ((y7.1.1, y7.1.2.1, y7.1.2.2.1, ()), ())))).bind fun p43 =>
    bif sameEx (.exit 0) p43.1 then (decSt S28_0_e0 p43.2 fun x44 =>
      callT (lvl Try.prog HH (n + 0)).2 84 [.s (.agg true [.v (.int .i64 x44.2.1.1), .v (.int .i64 x44.2.1.2.1), .v (.int .i64 x44.2.1.2.2.1)]), .s (.one (.fr 6 x44.1.2.1))] [] outs84 mouts84 fun y45 m46 =>
      callT (lvl Try.prog HH (n + 0)).2 85 [.s (.agg true [.v (.int .i64 x44.2.1.1), .v (.int .i64 x44.2.1.2.1), .v (.int .i64 x44.2.1.2.2.1)]), .s (.one (.fr 6 x44.1.2.1))] [] outs85 mouts85 fun y47 m48 =>
      callT (lvl Try.prog HH (n + 0)).2 40 [.s (.one (.fr 1 x44.1.2.2.1))] [] outs40 mouts40 fun y49 m50 =>
      callT (lvl Try.prog HH (n + 0)).2 54 [] [] outs54 mouts54 fun y51 m52 =>
      bif y51.1 then (
        bif y45.2.2.1 then (
          bif y47.2.2.1 then (
            letIn (IntKind.wrap .i64 (y45.1 * y49.1) : Int) fun n53 =>
            bif decide (n53 ≤ x44.1.2.2.2.1) then (
              letIn (IntKind.wrap .i64 (y47.1 * y49.1) : Int) fun n54 =>
              some (.s (.one (.v (.bool (decide (x44.1.2.2.2.1 ≤ n54))))), []))
            else
            some (.s (.one (.v (.bool false))), []))
          else
          some (.s (.one (.v (.bool false))), []))
        else
        some (.s (.one (.v (.bool false))), []))
      else
      some (.s (.one (.v (.bool false))), []))
    else
    none := by kernel_rfl

end Go.Proofs.Ytfpdjpleplhcgaa.Am
