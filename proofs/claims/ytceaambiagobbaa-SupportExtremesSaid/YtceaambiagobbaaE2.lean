/- PRINTED by amprint.py: what the abstract machine answers, function by function. -/
import Derived.Test.YtceaambiagobbaaH
import Derived.KernelRfl
set_option linter.unusedVariables false
set_option maxRecDepth 100000
namespace Go.Proofs.Ytceaambiagobbaa.Am
open Go Go.Proofs

/-! armplan/support.Least$1 -/
theorem fn33s0 (n : Nat) (v1 : Int) (v2 : Int) (v3 : Int) (v4 : Int) (v5 : Int) (v6 : Int) (c7 : Int) (c8 : Int) (c9 : Int) : (lvl Try.prog HH (n + 1)).2 33 [.s (.agg true [.v (.int .i64 v1), .v (.int .i64 v2), .v (.int .i64 v3), .v (.int .i64 v4), .v (.int .i64 v5), .v (.int .i64 v6)]), .s (.one (.ptr 0 0 0))] [.own 3 true [[.v (.int .i64 c7), .v (.int .i64 c8), .v (.int .i64 c9)]]] =
    callT (lvl Try.prog HH (n + 0)).2 30 [.s (.agg true [.v (.int .i64 c7), .v (.int .i64 c8), .v (.int .i64 c9)]), .s (.agg true [.v (.int .i64 v1), .v (.int .i64 v2), .v (.int .i64 v3), .v (.int .i64 v4), .v (.int .i64 v5), .v (.int .i64 v6)])] [] outs30 mouts30 fun y10 m11 =>
    some (.s (.one (.v (.int .i64 y10.1))), [.own 3 true [[.v (.int .i64 c7), .v (.int .i64 c8), .v (.int .i64 c9)]]]) := by kernel_rfl

/-! armplan/support.Least$2 -/
theorem fn34 (n : Nat) (x1 : Int) (y2 : Int) : (lvl Try.prog HH (n + 1)).2 34 [.s (.one (.v (.int .i64 x1))), .s (.one (.v (.int .i64 y2)))] [] =
    some (.s (.one (.v (.bool (decide (x1 < y2))))), []) := by kernel_rfl

/-! (armplan/support.search).first -/
theorem loop35s0_0 (n : Nat) (v9 : Int) (v10 : Int) (v11 : List (List D1)) (v12 : Int) (v13 : Int) (c14 : Int) (c15 : Int) (c16 : Int) : (lvl Try.prog HH (n + 1)).1 ⟨35, 1, true⟩ 0 (loopOf Try.f35 0) (encSt S35s0_0 (((), v9, v10, v11, v12, v13, ()), ((c14, c15, c16, ()), ((.clo 33 [.ptr 0 0 0]), (.v (.func (.func 34) #[] #[])), ()), ()))) =
    bif decide (v13 < v12) then (
      bif decide (0 ≤ v13) then (
        (nth v11 v13.toNat).bind fun cs17 =>
        bif Nat.beq ((cs17.drop 0).take 6).length 6 then (
          decCts [.int .i64, .int .i64, .int .i64, .int .i64, .int .i64, .int .i64] ((cs17.drop 0).take 6) fun c18 =>
          callT (lvl Try.prog HH (n + 0)).2 33 [.s (.agg true [.v (.int .i64 c18.1), .v (.int .i64 c18.2.1), .v (.int .i64 c18.2.2.1), .v (.int .i64 c18.2.2.2.1), .v (.int .i64 c18.2.2.2.2.1), .v (.int .i64 c18.2.2.2.2.2.1)]), .s (.one (.ptr 0 0 0))] [.own 3 true [[.v (.int .i64 c14), .v (.int .i64 c15), .v (.int .i64 c16)]]] outs33 mouts33 fun y19 m20 =>
          callT (lvl Try.prog HH (n + 0)).2 34 [.s (.one (.v (.int .i64 y19.1))), .s (.one (.v (.int .i64 v9)))] [] outs34 mouts34 fun y21 m22 =>
          bif y21.1 then (
            letIn (IntKind.wrap .i64 (v13 + 1) : Int) fun n23 =>
            (lvl Try.prog HH (n + 0)).1 ⟨35, 1, true⟩ 0 (loopOf Try.f35 0) (encSt S35s0_0 (((), y19.1, v13, v11, v12, n23, ()), ((c14, c15, c16, ()), ((.clo 33 [.ptr 0 0 0]), (.v (.func (.func 34) #[] #[])), ()), ()))))
          else
          letIn (IntKind.wrap .i64 (v13 + 1) : Int) fun n24 =>
          (lvl Try.prog HH (n + 0)).1 ⟨35, 1, true⟩ 0 (loopOf Try.f35 0) (encSt S35s0_0 (((), v9, v10, v11, v12, n24, ()), ((c14, c15, c16, ()), ((.clo 33 [.ptr 0 0 0]), (.v (.func (.func 34) #[] #[])), ()), ()))))
        else
        none)
      else
      none)
    else
    some (.exit 0, encSt S35s0_0_e0 ((v9, v10, ()), ((c14, c15, c16, ()), ()))) := by kernel_rfl

theorem fn35s0 (n : Nat) (l1 : List (List D1)) (c2 : Int) (c3 : Int) (c4 : Int) : (lvl Try.prog HH (n + 1)).2 35 [.s (.agg false [.clo 33 [.ptr 0 0 0], .v (.func (.func 34) #[] #[])]), .s (.one (.fr 6 l1))] [.own 3 true [[.v (.int .i64 c2), .v (.int .i64 c3), .v (.int .i64 c4)]]] =
    (nth l1 0).bind fun cs5 =>
    bif Nat.beq ((cs5.drop 0).take 6).length 6 then (
      decCts [.int .i64, .int .i64, .int .i64, .int .i64, .int .i64, .int .i64] ((cs5.drop 0).take 6) fun c6 =>
      callT (lvl Try.prog HH (n + 0)).2 33 [.s (.agg true [.v (.int .i64 c6.1), .v (.int .i64 c6.2.1), .v (.int .i64 c6.2.2.1), .v (.int .i64 c6.2.2.2.1), .v (.int .i64 c6.2.2.2.2.1), .v (.int .i64 c6.2.2.2.2.2.1)]), .s (.one (.ptr 0 0 0))] [.own 3 true [[.v (.int .i64 c2), .v (.int .i64 c3), .v (.int .i64 c4)]]] outs33 mouts33 fun y7 m8 =>
      ((lvl Try.prog HH (n + 0)).1 ⟨35, 1, true⟩ 0 (loopOf Try.f35 0) (encSt S35s0_0 (((), y7.1, 0, l1, (((l1.length : Nat) : Int)), 0, ()), ((c2, c3, c4, ()), ((.clo 33 [.ptr 0 0 0]), (.v (.func (.func 34) #[] #[])), ()), ())))).bind fun p25 =>
      bif sameEx (.exit 0) p25.1 then (decSt S35s0_0_e0 p25.2 fun x26 =>
        some (.tup [.one (.v (.int .i64 x26.1.1)), .one (.v (.int .i64 x26.1.2.1))], [.own 3 true [[.v (.int .i64 x26.2.1.1), .v (.int .i64 x26.2.1.2.1), .v (.int .i64 x26.2.1.2.2.1)]]]))
      else
      none)
    else
    none := by kernel_rfl

/-! armplan/support.Least -/
theorem fn24 (n : Nat) (n1 : Int) (n2 : Int) (n3 : Int) (l4 : List (List D1)) : (lvl Try.prog HH (n + 1)).2 24 [.s (.agg true [.v (.int .i64 n1), .v (.int .i64 n2), .v (.int .i64 n3)]), .s (.one (.fr 6 l4))] [] =
    callT (lvl Try.prog HH (n + 0)).2 9 [.s (.agg true [.v (.int .i64 n1), .v (.int .i64 n2), .v (.int .i64 n3)])] [] outs9 mouts9 fun y5 m6 =>
    bif !y5.1 then (
      some (.tup [.one (.v (.int .i64 0)), .one (.v (.int .i64 0)), .one (.v (.bool false))], []))
    else
    callT (lvl Try.prog HH (n + 0)).2 29 [.s (.one (.fr 6 l4))] [] outs29 mouts29 fun y7 m8 =>
    bif !y7.1 then (
      some (.tup [.one (.v (.int .i64 0)), .one (.v (.int .i64 0)), .one (.v (.bool false))], []))
    else
    callT (lvl Try.prog HH (n + 0)).2 35 [.s (.agg false [.clo 33 [.ptr 0 0 0], .v (.func (.func 34) #[] #[])]), .s (.one (.fr 6 l4))] [.own 3 true [[.v (.int .i64 n1), .v (.int .i64 n2), .v (.int .i64 n3)]]] outs35 mouts35 fun y9 m10 =>
    some (.tup [.one (.v (.int .i64 y9.1)), .one (.v (.int .i64 y9.2.1)), .one (.v (.bool true))], []) := by kernel_rfl

/-! armplan/armplanref10.reached -/
theorem fn42 (n : Nat) (v1 : Int) (v2 : Int) (v3 : Int) (v4 : Int) (v5 : Int) (v6 : Int) : (lvl Try.prog HH (n + 5)).2 42 [.s (.agg true [.v (.int .i64 v1), .v (.int .i64 v2), .v (.int .i64 v3), .v (.int .i64 v4), .v (.int .i64 v5), .v (.int .i64 v6)])] [] =
    Option.bind (
      bif decide (v1 < (-268435456)) then (
        some (.ret, encSt S42_0_r ((false, ()), ())))
      else
      bif decide (v1 > v2) then (
        some (.ret, encSt S42_0_r ((false, ()), ())))
      else
      bif decide (v2 > 268435456) then (
        some (.ret, encSt S42_0_r ((false, ()), ())))
      else
      bif decide (v3 < (-268435456)) then (
        some (.ret, encSt S42_0_r ((false, ()), ())))
      else
      bif decide (v3 > v4) then (
        some (.ret, encSt S42_0_r ((false, ()), ())))
      else
      bif decide (v4 > 268435456) then (
        some (.ret, encSt S42_0_r ((false, ()), ())))
      else
      bif decide (v5 < (-268435456)) then (
        some (.ret, encSt S42_0_r ((false, ()), ())))
      else
      bif decide (v5 > v6) then (
        some (.ret, encSt S42_0_r ((false, ()), ())))
      else
      bif decide (v6 > 268435456) then (
        some (.ret, encSt S42_0_r ((false, ()), ())))
      else
      some (.exit 0, encSt S42_0_e0 ((), ()))) fun p7 =>
    bif sameEx (.ret) p7.1 then (decSt S42_0_r p7.2 fun x8 =>
      some (.s (.one (.v (.bool x8.1.1))), []))
    else
    bif sameEx (.exit 0) p7.1 then (decSt S42_0_e0 p7.2 fun x9 =>
      some (.s (.one (.v (.bool true))), []))
    else
    none := by kernel_rfl

/-! armplan/armplanref10.Placed -/
theorem loop36_0 (n : Nat) (v2 : List (List D1)) (v3 : Int) : (lvl Try.prog HH (n + 1)).1 ⟨36, 0, true⟩ 0 (loopOf Try.f36 0) (encSt S36_0 ((v2, v3, ()), ())) =
    bif decide (v3 < (((v2.length : Nat) : Int))) then (
      bif decide (v3 ≤ 8) then (
        bif decide (0 ≤ v3) then (
          (nth v2 v3.toNat).bind fun cs4 =>
          bif Nat.beq ((cs4.drop 0).take 6).length 6 then (
            decCts [.int .i64, .int .i64, .int .i64, .int .i64, .int .i64, .int .i64] ((cs4.drop 0).take 6) fun c5 =>
            callT (lvl Try.prog HH (n + 0)).2 42 [.s (.agg true [.v (.int .i64 c5.1), .v (.int .i64 c5.2.1), .v (.int .i64 c5.2.2.1), .v (.int .i64 c5.2.2.2.1), .v (.int .i64 c5.2.2.2.2.1), .v (.int .i64 c5.2.2.2.2.2.1)])] [] outs42 mouts42 fun y6 m7 =>
            bif !y6.1 then (
              some (.ret, encSt S36_0_r ((false, ()), ())))
            else
            letIn (IntKind.wrap .i64 (v3 + 1) : Int) fun n8 =>
            (lvl Try.prog HH (n + 0)).1 ⟨36, 0, true⟩ 0 (loopOf Try.f36 0) (encSt S36_0 ((v2, n8, ()), ())))
          else
          none)
        else
        none)
      else
      some (.exit 0, encSt S36_0_e0 ((v2, ()), ())))
    else
    some (.exit 0, encSt S36_0_e0 ((v2, ()), ())) := by kernel_rfl

theorem fn36 (n : Nat) (l1 : List (List D1)) : (lvl Try.prog HH (n + 1)).2 36 [.s (.one (.fr 6 l1))] [] =
    ((lvl Try.prog HH (n + 0)).1 ⟨36, 0, true⟩ 0 (loopOf Try.f36 0) (encSt S36_0 ((l1, 0, ()), ()))).bind fun p9 =>
    bif sameEx (.ret) p9.1 then (decSt S36_0_r p9.2 fun x10 =>
      some (.s (.one (.v (.bool x10.1.1))), []))
    else
    bif sameEx (.exit 0) p9.1 then (decSt S36_0_e0 p9.2 fun x11 =>
      bif decide ((((x11.1.1.length : Nat) : Int)) ≥ 1) then (
        some (.s (.one (.v (.bool (decide ((((x11.1.1.length : Nat) : Int)) ≤ 8))))), []))
      else
      some (.s (.one (.v (.bool false))), []))
    else
    none := by kernel_rfl

/-! armplan/armplanref10.Dot -/
theorem fn37 (n : Nat) (n1 : Int) (n2 : Int) (n3 : Int) (v4 : Int) (v5 : Int) (v6 : Int) (v7 : Int) (v8 : Int) (v9 : Int) : (lvl Try.prog HH (n + 5)).2 37 [.s (.agg true [.v (.int .i64 n1), .v (.int .i64 n2), .v (.int .i64 n3)]), .s (.agg true [.v (.int .i64 v4), .v (.int .i64 v5), .v (.int .i64 v6), .v (.int .i64 v7), .v (.int .i64 v8), .v (.int .i64 v9)])] [] =
    callT (lvl Try.prog HH (n + 4)).2 15 [.s (.agg true [.v (.int .i64 n1), .v (.int .i64 n2), .v (.int .i64 n3)])] [] outs15 mouts15 fun y10 m11 =>
    bif !y10.1 then (
      some (.tup [.one (.v (.int .i64 0)), .one (.v (.int .i64 0))], []))
    else
    callT (lvl Try.prog HH (n + 4)).2 42 [.s (.agg true [.v (.int .i64 v4), .v (.int .i64 v5), .v (.int .i64 v6), .v (.int .i64 v7), .v (.int .i64 v8), .v (.int .i64 v9)])] [] outs42 mouts42 fun y12 m13 =>
    bif !y12.1 then (
      some (.tup [.one (.v (.int .i64 0)), .one (.v (.int .i64 0))], []))
    else
    letIn (IntKind.wrap .i64 (n1 * v4) : Int) fun n14 =>
    letIn (IntKind.wrap .i64 (n1 * v5) : Int) fun n15 =>
    letIn (if n15 < n14 then n15 else n14 : Int) fun n16 =>
    letIn (IntKind.wrap .i64 (0 + n16) : Int) fun n17 =>
    letIn (if n15 > n14 then n15 else n14 : Int) fun n18 =>
    letIn (IntKind.wrap .i64 (0 + n18) : Int) fun n19 =>
    letIn (IntKind.wrap .i64 (n2 * v6) : Int) fun n20 =>
    letIn (IntKind.wrap .i64 (n2 * v7) : Int) fun n21 =>
    letIn (if n21 < n20 then n21 else n20 : Int) fun n22 =>
    letIn (IntKind.wrap .i64 (n17 + n22) : Int) fun n23 =>
    letIn (if n21 > n20 then n21 else n20 : Int) fun n24 =>
    letIn (IntKind.wrap .i64 (n19 + n24) : Int) fun n25 =>
    letIn (IntKind.wrap .i64 (n3 * v8) : Int) fun n26 =>
    letIn (IntKind.wrap .i64 (n3 * v9) : Int) fun n27 =>
    letIn (if n27 < n26 then n27 else n26 : Int) fun n28 =>
    letIn (IntKind.wrap .i64 (n23 + n28) : Int) fun n29 =>
    letIn (if n27 > n26 then n27 else n26 : Int) fun n30 =>
    letIn (IntKind.wrap .i64 (n25 + n30) : Int) fun n31 =>
    some (.tup [.one (.v (.int .i64 n29)), .one (.v (.int .i64 n31))], []) := by kernel_rfl

/-! armplan/armplanref10.Least -/
theorem loop25_0 (n : Nat) (v9 : List (List D1)) (v10 : Int) (v11 : Int) (v12 : Int) (c13 : Int) (c14 : Int) (c15 : Int) : (lvl Try.prog HH (n + 1)).1 ⟨25, 0, true⟩ 0 (loopOf Try.f25 0) (encSt S25_0 ((v9, (), v10, v11, v12, ()), ((c13, c14, c15, ()), ()))) =
    bif decide (v12 < (((v9.length : Nat) : Int))) then (
      bif decide (0 ≤ v12) then (
        (nth v9 v12.toNat).bind fun cs16 =>
        bif Nat.beq ((cs16.drop 0).take 6).length 6 then (
          decCts [.int .i64, .int .i64, .int .i64, .int .i64, .int .i64, .int .i64] ((cs16.drop 0).take 6) fun c17 =>
          callT (lvl Try.prog HH (n + 0)).2 37 [.s (.agg true [.v (.int .i64 c13), .v (.int .i64 c14), .v (.int .i64 c15)]), .s (.agg true [.v (.int .i64 c17.1), .v (.int .i64 c17.2.1), .v (.int .i64 c17.2.2.1), .v (.int .i64 c17.2.2.2.1), .v (.int .i64 c17.2.2.2.2.1), .v (.int .i64 c17.2.2.2.2.2.1)])] [] outs37 mouts37 fun y18 m19 =>
          bif v12 == 0 then (
            letIn (IntKind.wrap .i64 (v12 + 1) : Int) fun n20 =>
            (lvl Try.prog HH (n + 0)).1 ⟨25, 0, true⟩ 0 (loopOf Try.f25 0) (encSt S25_0 ((v9, (), y18.1, v12, n20, ()), ((c13, c14, c15, ()), ()))))
          else
          bif decide (y18.1 < v10) then (
            letIn (IntKind.wrap .i64 (v12 + 1) : Int) fun n21 =>
            (lvl Try.prog HH (n + 0)).1 ⟨25, 0, true⟩ 0 (loopOf Try.f25 0) (encSt S25_0 ((v9, (), y18.1, v12, n21, ()), ((c13, c14, c15, ()), ()))))
          else
          letIn (IntKind.wrap .i64 (v12 + 1) : Int) fun n22 =>
          (lvl Try.prog HH (n + 0)).1 ⟨25, 0, true⟩ 0 (loopOf Try.f25 0) (encSt S25_0 ((v9, (), v10, v11, n22, ()), ((c13, c14, c15, ()), ()))))
        else
        none)
      else
      none)
    else
    some (.exit 0, encSt S25_0_e0 ((v10, v11, ()), ())) := by kernel_rfl

theorem fn25 (n : Nat) (n1 : Int) (n2 : Int) (n3 : Int) (l4 : List (List D1)) : (lvl Try.prog HH (n + 1)).2 25 [.s (.agg true [.v (.int .i64 n1), .v (.int .i64 n2), .v (.int .i64 n3)]), .s (.one (.fr 6 l4))] [] =
    callT (lvl Try.prog HH (n + 0)).2 15 [.s (.agg true [.v (.int .i64 n1), .v (.int .i64 n2), .v (.int .i64 n3)])] [] outs15 mouts15 fun y5 m6 =>
    bif !y5.1 then (
      some (.tup [.one (.v (.int .i64 0)), .one (.v (.int .i64 0)), .one (.v (.bool false))], []))
    else
    callT (lvl Try.prog HH (n + 0)).2 36 [.s (.one (.fr 6 l4))] [] outs36 mouts36 fun y7 m8 =>
    bif !y7.1 then (
      some (.tup [.one (.v (.int .i64 0)), .one (.v (.int .i64 0)), .one (.v (.bool false))], []))
    else
    ((lvl Try.prog HH (n + 0)).1 ⟨25, 0, true⟩ 0 (loopOf Try.f25 0) (encSt S25_0 ((l4, (), 0, 0, 0, ()), ((n1, n2, n3, ()), ())))).bind fun p23 =>
    bif sameEx (.exit 0) p23.1 then (decSt S25_0_e0 p23.2 fun x24 =>
      some (.tup [.one (.v (.int .i64 x24.1.1)), .one (.v (.int .i64 x24.1.2.1)), .one (.v (.bool true))], []))
    else
    none := by kernel_rfl

/-! armplan/support.Greatest$1 -/
theorem fn38s0 (n : Nat) (v1 : Int) (v2 : Int) (v3 : Int) (v4 : Int) (v5 : Int) (v6 : Int) (c7 : Int) (c8 : Int) (c9 : Int) : (lvl Try.prog HH (n + 1)).2 38 [.s (.agg true [.v (.int .i64 v1), .v (.int .i64 v2), .v (.int .i64 v3), .v (.int .i64 v4), .v (.int .i64 v5), .v (.int .i64 v6)]), .s (.one (.ptr 0 0 0))] [.own 3 true [[.v (.int .i64 c7), .v (.int .i64 c8), .v (.int .i64 c9)]]] =
    callT (lvl Try.prog HH (n + 0)).2 30 [.s (.agg true [.v (.int .i64 c7), .v (.int .i64 c8), .v (.int .i64 c9)]), .s (.agg true [.v (.int .i64 v1), .v (.int .i64 v2), .v (.int .i64 v3), .v (.int .i64 v4), .v (.int .i64 v5), .v (.int .i64 v6)])] [] outs30 mouts30 fun y10 m11 =>
    some (.s (.one (.v (.int .i64 y10.2.1))), [.own 3 true [[.v (.int .i64 c7), .v (.int .i64 c8), .v (.int .i64 c9)]]]) := by kernel_rfl

/-! armplan/support.Greatest$2 -/
theorem fn39 (n : Nat) (x1 : Int) (y2 : Int) : (lvl Try.prog HH (n + 1)).2 39 [.s (.one (.v (.int .i64 x1))), .s (.one (.v (.int .i64 y2)))] [] =
    some (.s (.one (.v (.bool (decide (x1 > y2))))), []) := by kernel_rfl

/-! (armplan/support.search).first -/
theorem loop35s1_0 (n : Nat) (v9 : Int) (v10 : Int) (v11 : List (List D1)) (v12 : Int) (v13 : Int) (c14 : Int) (c15 : Int) (c16 : Int) : (lvl Try.prog HH (n + 1)).1 ⟨35, 1, true⟩ 0 (loopOf Try.f35 0) (encSt S35s1_0 (((), v9, v10, v11, v12, v13, ()), ((c14, c15, c16, ()), ((.clo 38 [.ptr 0 0 0]), (.v (.func (.func 39) #[] #[])), ()), ()))) =
    bif decide (v13 < v12) then (
      bif decide (0 ≤ v13) then (
        (nth v11 v13.toNat).bind fun cs17 =>
        bif Nat.beq ((cs17.drop 0).take 6).length 6 then (
          decCts [.int .i64, .int .i64, .int .i64, .int .i64, .int .i64, .int .i64] ((cs17.drop 0).take 6) fun c18 =>
          callT (lvl Try.prog HH (n + 0)).2 38 [.s (.agg true [.v (.int .i64 c18.1), .v (.int .i64 c18.2.1), .v (.int .i64 c18.2.2.1), .v (.int .i64 c18.2.2.2.1), .v (.int .i64 c18.2.2.2.2.1), .v (.int .i64 c18.2.2.2.2.2.1)]), .s (.one (.ptr 0 0 0))] [.own 3 true [[.v (.int .i64 c14), .v (.int .i64 c15), .v (.int .i64 c16)]]] outs38 mouts38 fun y19 m20 =>
          callT (lvl Try.prog HH (n + 0)).2 39 [.s (.one (.v (.int .i64 y19.1))), .s (.one (.v (.int .i64 v9)))] [] outs39 mouts39 fun y21 m22 =>
          bif y21.1 then (
            letIn (IntKind.wrap .i64 (v13 + 1) : Int) fun n23 =>
            (lvl Try.prog HH (n + 0)).1 ⟨35, 1, true⟩ 0 (loopOf Try.f35 0) (encSt S35s1_0 (((), y19.1, v13, v11, v12, n23, ()), ((c14, c15, c16, ()), ((.clo 38 [.ptr 0 0 0]), (.v (.func (.func 39) #[] #[])), ()), ()))))
          else
          letIn (IntKind.wrap .i64 (v13 + 1) : Int) fun n24 =>
          (lvl Try.prog HH (n + 0)).1 ⟨35, 1, true⟩ 0 (loopOf Try.f35 0) (encSt S35s1_0 (((), v9, v10, v11, v12, n24, ()), ((c14, c15, c16, ()), ((.clo 38 [.ptr 0 0 0]), (.v (.func (.func 39) #[] #[])), ()), ()))))
        else
        none)
      else
      none)
    else
    some (.exit 0, encSt S35s1_0_e0 ((v9, v10, ()), ((c14, c15, c16, ()), ()))) := by kernel_rfl

theorem fn35s1 (n : Nat) (l1 : List (List D1)) (c2 : Int) (c3 : Int) (c4 : Int) : (lvl Try.prog HH (n + 1)).2 35 [.s (.agg false [.clo 38 [.ptr 0 0 0], .v (.func (.func 39) #[] #[])]), .s (.one (.fr 6 l1))] [.own 3 true [[.v (.int .i64 c2), .v (.int .i64 c3), .v (.int .i64 c4)]]] =
    (nth l1 0).bind fun cs5 =>
    bif Nat.beq ((cs5.drop 0).take 6).length 6 then (
      decCts [.int .i64, .int .i64, .int .i64, .int .i64, .int .i64, .int .i64] ((cs5.drop 0).take 6) fun c6 =>
      callT (lvl Try.prog HH (n + 0)).2 38 [.s (.agg true [.v (.int .i64 c6.1), .v (.int .i64 c6.2.1), .v (.int .i64 c6.2.2.1), .v (.int .i64 c6.2.2.2.1), .v (.int .i64 c6.2.2.2.2.1), .v (.int .i64 c6.2.2.2.2.2.1)]), .s (.one (.ptr 0 0 0))] [.own 3 true [[.v (.int .i64 c2), .v (.int .i64 c3), .v (.int .i64 c4)]]] outs38 mouts38 fun y7 m8 =>
      ((lvl Try.prog HH (n + 0)).1 ⟨35, 1, true⟩ 0 (loopOf Try.f35 0) (encSt S35s1_0 (((), y7.1, 0, l1, (((l1.length : Nat) : Int)), 0, ()), ((c2, c3, c4, ()), ((.clo 38 [.ptr 0 0 0]), (.v (.func (.func 39) #[] #[])), ()), ())))).bind fun p25 =>
      bif sameEx (.exit 0) p25.1 then (decSt S35s1_0_e0 p25.2 fun x26 =>
        some (.tup [.one (.v (.int .i64 x26.1.1)), .one (.v (.int .i64 x26.1.2.1))], [.own 3 true [[.v (.int .i64 x26.2.1.1), .v (.int .i64 x26.2.1.2.1), .v (.int .i64 x26.2.1.2.2.1)]]]))
      else
      none)
    else
    none := by kernel_rfl

end Go.Proofs.Ytceaambiagobbaa.Am
