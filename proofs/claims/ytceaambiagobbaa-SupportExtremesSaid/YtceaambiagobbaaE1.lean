/- PRINTED by amprint.py: what the abstract machine answers, function by function. -/
import Derived.Test.YtceaambiagobbaaH
import Derived.KernelRfl
set_option linter.unusedVariables false
set_option maxRecDepth 100000
namespace Go.Proofs.Ytceaambiagobbaa.Am
open Go Go.Proofs

/-! armplan/support.fits -/
theorem fn19 (n : Nat) (v1 : Int) (v2 : Int) (v3 : Int) : (lvl Try.prog HH (n + 5)).2 19 [.s (.agg true [.v (.int .i64 v1), .v (.int .i64 v2), .v (.int .i64 v3)])] [] =
    Option.bind (
      bif decide (v1 < (-16384)) then (
        some (.ret, encSt S19_0_r ((false, ()), ())))
      else
      bif decide (v1 > 16384) then (
        some (.ret, encSt S19_0_r ((false, ()), ())))
      else
      bif decide (v2 < (-16384)) then (
        some (.ret, encSt S19_0_r ((false, ()), ())))
      else
      bif decide (v2 > 16384) then (
        some (.ret, encSt S19_0_r ((false, ()), ())))
      else
      bif decide (v3 < (-16384)) then (
        some (.ret, encSt S19_0_r ((false, ()), ())))
      else
      bif decide (v3 > 16384) then (
        some (.ret, encSt S19_0_r ((false, ()), ())))
      else
      some (.exit 0, encSt S19_0_e0 ((), ()))) fun p4 =>
    bif sameEx (.ret) p4.1 then (decSt S19_0_r p4.2 fun x5 =>
      some (.s (.one (.v (.bool x5.1.1))), []))
    else
    bif sameEx (.exit 0) p4.1 then (decSt S19_0_e0 p4.2 fun x6 =>
      some (.s (.one (.v (.bool true))), []))
    else
    none := by kernel_rfl

/-! armplan/support.Usable -/
theorem fn9 (n : Nat) (n1 : Int) (n2 : Int) (n3 : Int) : (lvl Try.prog HH (n + 1)).2 9 [.s (.agg true [.v (.int .i64 n1), .v (.int .i64 n2), .v (.int .i64 n3)])] [] =
    callT (lvl Try.prog HH (n + 0)).2 19 [.s (.agg true [.v (.int .i64 n1), .v (.int .i64 n2), .v (.int .i64 n3)])] [] outs19 mouts19 fun y4 m5 =>
    bif y4.1 then (
      letIn (!((n1 == 0) && ((n2 == 0) && ((n3 == 0) && true))) : Bool) fun b6 =>
      some (.s (.one (.v (.bool b6))), []))
    else
    some (.s (.one (.v (.bool false))), []) := by kernel_rfl

/-! armplan/shape.reaches -/
theorem fn40 (n : Nat) (a1 : Int) (a2 : Int) : (lvl Try.prog HH (n + 1)).2 40 [.s (.agg true [.v (.int .i64 a1), .v (.int .i64 a2)])] [] =
    bif decide (a1 ≥ (-268435456)) then (
      bif decide (a1 ≤ a2) then (
        some (.s (.one (.v (.bool (decide (a2 ≤ 268435456))))), []))
      else
      some (.s (.one (.v (.bool false))), []))
    else
    some (.s (.one (.v (.bool false))), []) := by kernel_rfl

/-! armplan/shape.Placed -/
theorem loop29_0 (n : Nat) (v2 : List (List D1)) (v3 : List (List D1)) (v4 : Int) (v5 : Int) : (lvl Try.prog HH (n + 1)).1 ⟨29, 0, true⟩ 0 (loopOf Try.f29 0) (encSt S29_0 ((v2, v3, v4, v5, ()), ())) =
    bif decide (v5 < v4) then (
      bif decide (0 ≤ v5) then (
        (nth v3 v5.toNat).bind fun cs6 =>
        bif Nat.beq ((cs6.drop 0).take 6).length 6 then (
          decCts [.int .i64, .int .i64, .int .i64, .int .i64, .int .i64, .int .i64] ((cs6.drop 0).take 6) fun c7 =>
          callT (lvl Try.prog HH (n + 0)).2 40 [.s (.agg true [.v (.int .i64 c7.1), .v (.int .i64 c7.2.1)])] [] outs40 mouts40 fun y8 m9 =>
          bif !y8.1 then (
            some (.ret, encSt S29_0_r ((false, ()), ())))
          else
          callT (lvl Try.prog HH (n + 0)).2 40 [.s (.agg true [.v (.int .i64 c7.2.2.1), .v (.int .i64 c7.2.2.2.1)])] [] outs40 mouts40 fun y10 m11 =>
          bif !y10.1 then (
            some (.ret, encSt S29_0_r ((false, ()), ())))
          else
          callT (lvl Try.prog HH (n + 0)).2 40 [.s (.agg true [.v (.int .i64 c7.2.2.2.2.1), .v (.int .i64 c7.2.2.2.2.2.1)])] [] outs40 mouts40 fun y12 m13 =>
          bif !y12.1 then (
            some (.ret, encSt S29_0_r ((false, ()), ())))
          else
          letIn (IntKind.wrap .i64 (v5 + 1) : Int) fun n14 =>
          (lvl Try.prog HH (n + 0)).1 ⟨29, 0, true⟩ 0 (loopOf Try.f29 0) (encSt S29_0 ((v2, v3, v4, n14, ()), ())))
        else
        none)
      else
      none)
    else
    some (.exit 0, encSt S29_0_e0 ((v2, ()), ())) := by kernel_rfl

theorem fn29 (n : Nat) (l1 : List (List D1)) : (lvl Try.prog HH (n + 1)).2 29 [.s (.one (.fr 6 l1))] [] =
    ((lvl Try.prog HH (n + 0)).1 ⟨29, 0, true⟩ 0 (loopOf Try.f29 0) (encSt S29_0 ((l1, l1, (((l1.length : Nat) : Int)), 0, ()), ()))).bind fun p15 =>
    bif sameEx (.ret) p15.1 then (decSt S29_0_r p15.2 fun x16 =>
      some (.s (.one (.v (.bool x16.1.1))), []))
    else
    bif sameEx (.exit 0) p15.1 then (decSt S29_0_e0 p15.2 fun x17 =>
      bif decide ((((x17.1.1.length : Nat) : Int)) ≥ 1) then (
        some (.s (.one (.v (.bool (decide ((((x17.1.1.length : Nat) : Int)) ≤ 8))))), []))
      else
      some (.s (.one (.v (.bool false))), []))
    else
    none := by kernel_rfl

/-! armplan/support.dot -/
theorem fn30 (n : Nat) (n1 : Int) (n2 : Int) (n3 : Int) (v4 : Int) (v5 : Int) (v6 : Int) (v7 : Int) (v8 : Int) (v9 : Int) : (lvl Try.prog HH (n + 5)).2 30 [.s (.agg true [.v (.int .i64 n1), .v (.int .i64 n2), .v (.int .i64 n3)]), .s (.agg true [.v (.int .i64 v4), .v (.int .i64 v5), .v (.int .i64 v6), .v (.int .i64 v7), .v (.int .i64 v8), .v (.int .i64 v9)])] [] =
    letIn (IntKind.wrap .i64 (n1 * v4) : Int) fun n10 =>
    letIn (IntKind.wrap .i64 (n1 * v5) : Int) fun n11 =>
    letIn (if n11 < n10 then n11 else n10 : Int) fun n12 =>
    letIn (IntKind.wrap .i64 (0 + n12) : Int) fun n13 =>
    letIn (if n11 > n10 then n11 else n10 : Int) fun n14 =>
    letIn (IntKind.wrap .i64 (0 + n14) : Int) fun n15 =>
    letIn (IntKind.wrap .i64 (n2 * v6) : Int) fun n16 =>
    letIn (IntKind.wrap .i64 (n2 * v7) : Int) fun n17 =>
    letIn (if n17 < n16 then n17 else n16 : Int) fun n18 =>
    letIn (IntKind.wrap .i64 (n13 + n18) : Int) fun n19 =>
    letIn (if n17 > n16 then n17 else n16 : Int) fun n20 =>
    letIn (IntKind.wrap .i64 (n15 + n20) : Int) fun n21 =>
    letIn (IntKind.wrap .i64 (n3 * v8) : Int) fun n22 =>
    letIn (IntKind.wrap .i64 (n3 * v9) : Int) fun n23 =>
    letIn (if n23 < n22 then n23 else n22 : Int) fun n24 =>
    letIn (IntKind.wrap .i64 (n19 + n24) : Int) fun n25 =>
    letIn (if n23 > n22 then n23 else n22 : Int) fun n26 =>
    letIn (IntKind.wrap .i64 (n21 + n26) : Int) fun n27 =>
    some (.tup [.one (.v (.int .i64 n25)), .one (.v (.int .i64 n27))], []) := by kernel_rfl

/-! armplan/support.Dot -/
theorem fn16 (n : Nat) (n1 : Int) (n2 : Int) (n3 : Int) (v4 : Int) (v5 : Int) (v6 : Int) (v7 : Int) (v8 : Int) (v9 : Int) : (lvl Try.prog HH (n + 1)).2 16 [.s (.agg true [.v (.int .i64 n1), .v (.int .i64 n2), .v (.int .i64 n3)]), .s (.agg true [.v (.int .i64 v4), .v (.int .i64 v5), .v (.int .i64 v6), .v (.int .i64 v7), .v (.int .i64 v8), .v (.int .i64 v9)])] [] =
    callT (lvl Try.prog HH (n + 0)).2 9 [.s (.agg true [.v (.int .i64 n1), .v (.int .i64 n2), .v (.int .i64 n3)])] [] outs9 mouts9 fun y10 m11 =>
    bif !y10.1 then (
      some (.tup [.one (.v (.int .i64 0)), .one (.v (.int .i64 0))], []))
    else
    callT (lvl Try.prog HH (n + 0)).2 29 [.s (.one (.fr 6 [[.v (.int .i64 v4), .v (.int .i64 v5), .v (.int .i64 v6), .v (.int .i64 v7), .v (.int .i64 v8), .v (.int .i64 v9)]]))] [] outs29 mouts29 fun y12 m13 =>
    bif !y12.1 then (
      some (.tup [.one (.v (.int .i64 0)), .one (.v (.int .i64 0))], []))
    else
    callT (lvl Try.prog HH (n + 0)).2 30 [.s (.agg true [.v (.int .i64 n1), .v (.int .i64 n2), .v (.int .i64 n3)]), .s (.agg true [.v (.int .i64 v4), .v (.int .i64 v5), .v (.int .i64 v6), .v (.int .i64 v7), .v (.int .i64 v8), .v (.int .i64 v9)])] [] outs30 mouts30 fun y14 m15 =>
    some (.tup [.one (.v (.int .i64 y14.1)), .one (.v (.int .i64 y14.2.1))], []) := by kernel_rfl

/-! armplan/fixed.Root -/
theorem loop32_0 (n : Nat) (v2 : Int) (v3 : Int) (v4 : Int) : (lvl Try.prog HH (n + 1)).1 ⟨32, 0, true⟩ 0 (loopOf Try.f32 0) (encSt S32_0 ((v2, v3, v4, ()), ())) =
    bif decide (v4 < 32) then (
      letIn (IntKind.wrap .i64 (31 - v4) : Int) fun n5 =>
      bif decide (n5 < 0) then (
        none)
      else
      letIn (IntKind.wrap .i64 (1 * (2 ^ min n5.toNat 64)) : Int) fun n6 =>
      letIn (IntKind.wrap .i64 (v3 + n6) : Int) fun n7 =>
      bif n7 == 0 then (
        none)
      else
      letIn (IntKind.wrap .i64 (Int.tdiv v2 n7) : Int) fun n8 =>
      bif decide (n7 ≤ n8) then (
        letIn (IntKind.wrap .i64 (v4 + 1) : Int) fun n9 =>
        (lvl Try.prog HH (n + 0)).1 ⟨32, 0, true⟩ 0 (loopOf Try.f32 0) (encSt S32_0 ((v2, n7, n9, ()), ())))
      else
      letIn (IntKind.wrap .i64 (v4 + 1) : Int) fun n10 =>
      (lvl Try.prog HH (n + 0)).1 ⟨32, 0, true⟩ 0 (loopOf Try.f32 0) (encSt S32_0 ((v2, v3, n10, ()), ())))
    else
    some (.exit 0, encSt S32_0_e0 ((v3, ()), ())) := by kernel_rfl

theorem fn32 (n : Nat) (n1 : Int) : (lvl Try.prog HH (n + 1)).2 32 [.s (.one (.v (.int .i64 n1)))] [] =
    bif decide (n1 ≤ 0) then (
      some (.s (.one (.v (.int .i64 0))), []))
    else
    ((lvl Try.prog HH (n + 0)).1 ⟨32, 0, true⟩ 0 (loopOf Try.f32 0) (encSt S32_0 ((n1, 0, 0, ()), ()))).bind fun p11 =>
    bif sameEx (.exit 0) p11.1 then (decSt S32_0_e0 p11.2 fun x12 =>
      some (.s (.one (.v (.int .i64 x12.1.1))), []))
    else
    none := by kernel_rfl

/-! armplan/fixed.RootUp -/
theorem fn20 (n : Nat) (n1 : Int) : (lvl Try.prog HH (n + 1)).2 20 [.s (.one (.v (.int .i64 n1)))] [] =
    callT (lvl Try.prog HH (n + 0)).2 32 [.s (.one (.v (.int .i64 n1)))] [] outs32 mouts32 fun y2 m3 =>
    letIn (IntKind.wrap .i64 (y2.1 * y2.1) : Int) fun n4 =>
    bif decide (n4 < n1) then (
      letIn (IntKind.wrap .i64 (y2.1 + 1) : Int) fun n5 =>
      some (.s (.one (.v (.int .i64 n5))), []))
    else
    some (.s (.one (.v (.int .i64 y2.1))), []) := by kernel_rfl

/-! armplan/support.Norm -/
theorem fn11 (n : Nat) (n1 : Int) (n2 : Int) (n3 : Int) : (lvl Try.prog HH (n + 1)).2 11 [.s (.agg true [.v (.int .i64 n1), .v (.int .i64 n2), .v (.int .i64 n3)])] [] =
    callT (lvl Try.prog HH (n + 0)).2 9 [.s (.agg true [.v (.int .i64 n1), .v (.int .i64 n2), .v (.int .i64 n3)])] [] outs9 mouts9 fun y4 m5 =>
    bif !y4.1 then (
      some (.s (.one (.v (.int .i64 0))), []))
    else
    letIn (IntKind.wrap .i64 (n1 * n1) : Int) fun n6 =>
    letIn (IntKind.wrap .i64 (n2 * n2) : Int) fun n7 =>
    letIn (IntKind.wrap .i64 (n6 + n7) : Int) fun n8 =>
    letIn (IntKind.wrap .i64 (n3 * n3) : Int) fun n9 =>
    letIn (IntKind.wrap .i64 (n8 + n9) : Int) fun n10 =>
    callT (lvl Try.prog HH (n + 0)).2 20 [.s (.one (.v (.int .i64 n10)))] [] outs20 mouts20 fun y11 m12 =>
    some (.s (.one (.v (.int .i64 y11.1))), []) := by kernel_rfl

/-! armplan/armplanlaw13.awake -/
theorem fn7 (n : Nat)  : (lvl Try.prog HH (n + 1)).2 7 [] [] =
    callT (lvl Try.prog HH (n + 0)).2 16 [.s (.agg true [.v (.int .i64 1), .v (.int .i64 (-2)), .v (.int .i64 0)]), .s (.agg true [.v (.int .i64 0), .v (.int .i64 1), .v (.int .i64 3), .v (.int .i64 4), .v (.int .i64 5), .v (.int .i64 5)])] [] outs16 mouts16 fun y1 m2 =>
    bif y1.1 == (-8) then (
      bif y1.2.1 == (-5) then (
        callT (lvl Try.prog HH (n + 0)).2 11 [.s (.agg true [.v (.int .i64 1), .v (.int .i64 1), .v (.int .i64 1)])] [] outs11 mouts11 fun y3 m4 =>
        some (.s (.one (.v (.bool (y3.1 == 2)))), []))
      else
      some (.s (.one (.v (.bool false))), []))
    else
    some (.s (.one (.v (.bool false))), []) := by kernel_rfl

end Go.Proofs.Ytceaambiagobbaa.Am
