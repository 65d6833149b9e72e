/- PRINTED by amprint.py: what the abstract machine answers, function by function. -/
import Derived.Test.YtceaambiagobbaaH
import Derived.KernelRfl
set_option linter.unusedVariables false
set_option maxRecDepth 100000
namespace Go.Proofs.Ytceaambiagobbaa.Am
open Go Go.Proofs

/-! armplan/armplanmake.Round -/
theorem fn14 (n : Nat) (n1 : Int) (k2 : Int) : (lvl Try.prog HH (n + 1)).2 14 [.s (.one (.v (.int .i64 n1))), .s (.one (.v (.int .i64 k2)))] [] =
    bif k2 == 0 then (
      none)
    else
    letIn (Int.tmod n1 k2 : Int) fun n3 =>
    bif decide (n3 < 0) then (
      letIn (IntKind.wrap .i64 (n3 + k2) : Int) fun n4 =>
      some (.s (.one (.v (.int .i64 n4))), []))
    else
    some (.s (.one (.v (.int .i64 n3))), []) := by kernel_rfl

/-! armplan/armplanref6.Near -/
theorem fn28 (n : Nat) (v1 : Int) (v2 : Int) (v3 : Int) (most4 : Int) : (lvl Try.prog HH (n + 5)).2 28 [.s (.agg true [.v (.int .i64 v1), .v (.int .i64 v2), .v (.int .i64 v3)]), .s (.one (.v (.int .i64 most4)))] [] =
    Option.bind (
      letIn (IntKind.wrap .i64 (0 - most4) : Int) fun n5 =>
      bif decide (v1 < n5) then (
        some (.ret, encSt S28_0_r ((false, ()), ())))
      else
      bif decide (v1 > most4) then (
        some (.ret, encSt S28_0_r ((false, ()), ())))
      else
      letIn (IntKind.wrap .i64 (0 - most4) : Int) fun n6 =>
      bif decide (v2 < n6) then (
        some (.ret, encSt S28_0_r ((false, ()), ())))
      else
      bif decide (v2 > most4) then (
        some (.ret, encSt S28_0_r ((false, ()), ())))
      else
      letIn (IntKind.wrap .i64 (0 - most4) : Int) fun n7 =>
      bif decide (v3 < n7) then (
        some (.ret, encSt S28_0_r ((false, ()), ())))
      else
      bif decide (v3 > most4) then (
        some (.ret, encSt S28_0_r ((false, ()), ())))
      else
      some (.exit 0, encSt S28_0_e0 ((), ()))) fun p8 =>
    bif sameEx (.ret) p8.1 then (decSt S28_0_r p8.2 fun x9 =>
      some (.s (.one (.v (.bool x9.1.1))), []))
    else
    bif sameEx (.exit 0) p8.1 then (decSt S28_0_e0 p8.2 fun x10 =>
      some (.s (.one (.v (.bool true))), []))
    else
    none := by kernel_rfl

/-! armplan/armplanref10.Usable -/
theorem fn15 (n : Nat) (n1 : Int) (n2 : Int) (n3 : Int) : (lvl Try.prog HH (n + 1)).2 15 [.s (.agg true [.v (.int .i64 n1), .v (.int .i64 n2), .v (.int .i64 n3)])] [] =
    letIn (!((n1 == 0) && ((n2 == 0) && ((n3 == 0) && true))) : Bool) fun b4 =>
    bif b4 then (
      callT (lvl Try.prog HH (n + 0)).2 28 [.s (.agg true [.v (.int .i64 n1), .v (.int .i64 n2), .v (.int .i64 n3)]), .s (.one (.v (.int .i64 16384)))] [] outs28 mouts28 fun y5 m6 =>
      some (.s (.one (.v (.bool y5.1))), []))
    else
    some (.s (.one (.v (.bool false))), []) := by kernel_rfl

/-! armplan/armplanmake.Normal -/
theorem fn6_w (w : CallF → CallF) (v : LoopF → LoopF) (n : Nat) (a1 : Int) (b2 : Int) (c3 : Int) : (lvlW w v symL Try.prog HH (n + 1)).2 6 [.s (.one (.v (.int .i64 a1))), .s (.one (.v (.int .i64 b2))), .s (.one (.v (.int .i64 c3)))] [] =
    callT (w (lvlW w v symL Try.prog HH (n + 0)).2) 14 [.s (.one (.v (.int .i64 a1))), .s (.one (.v (.int .i64 41)))] [] outs14 mouts14 fun y4 m5 =>
    letIn (IntKind.wrap .i64 (y4.1 - 20) : Int) fun n6 =>
    callT (w (lvlW w v symL Try.prog HH (n + 0)).2) 14 [.s (.one (.v (.int .i64 b2))), .s (.one (.v (.int .i64 41)))] [] outs14 mouts14 fun y7 m8 =>
    letIn (IntKind.wrap .i64 (y7.1 - 20) : Int) fun n9 =>
    callT (w (lvlW w v symL Try.prog HH (n + 0)).2) 14 [.s (.one (.v (.int .i64 c3))), .s (.one (.v (.int .i64 41)))] [] outs14 mouts14 fun y10 m11 =>
    letIn (IntKind.wrap .i64 (y10.1 - 20) : Int) fun n12 =>
    letIn (IntKind.wrap .i64 ((BitVec.ofInt 64 a1 &&& BitVec.ofInt 64 8).toNat : Nat) : Int) fun n13 =>
    bif n13 == 8 then (
      callT (w (lvlW w v symL Try.prog HH (n + 0)).2) 14 [.s (.one (.v (.int .i64 a1))), .s (.one (.v (.int .i64 32769)))] [] outs14 mouts14 fun y14 m15 =>
      letIn (IntKind.wrap .i64 (y14.1 - 16384) : Int) fun n16 =>
      callT (w (lvlW w v symL Try.prog HH (n + 0)).2) 14 [.s (.one (.v (.int .i64 b2))), .s (.one (.v (.int .i64 32769)))] [] outs14 mouts14 fun y17 m18 =>
      letIn (IntKind.wrap .i64 (y17.1 - 16384) : Int) fun n19 =>
      callT (w (lvlW w v symL Try.prog HH (n + 0)).2) 14 [.s (.one (.v (.int .i64 c3))), .s (.one (.v (.int .i64 32769)))] [] outs14 mouts14 fun y20 m21 =>
      letIn (IntKind.wrap .i64 (y20.1 - 16384) : Int) fun n22 =>
      callT (w (lvlW w v symL Try.prog HH (n + 0)).2) 15 [.s (.agg true [.v (.int .i64 n16), .v (.int .i64 n19), .v (.int .i64 n22)])] [] outs15 mouts15 fun y23 m24 =>
      bif !y23.1 then (
        some (.s (.agg true [.v (.int .i64 1), .v (.int .i64 0), .v (.int .i64 0)]), []))
      else
      some (.s (.agg true [.v (.int .i64 n16), .v (.int .i64 n19), .v (.int .i64 n22)]), []))
    else
    callT (w (lvlW w v symL Try.prog HH (n + 0)).2) 15 [.s (.agg true [.v (.int .i64 n6), .v (.int .i64 n9), .v (.int .i64 n12)])] [] outs15 mouts15 fun y25 m26 =>
    bif !y25.1 then (
      some (.s (.agg true [.v (.int .i64 1), .v (.int .i64 0), .v (.int .i64 0)]), []))
    else
    some (.s (.agg true [.v (.int .i64 n6), .v (.int .i64 n9), .v (.int .i64 n12)]), []) := by kernel_rfl
theorem fn6 (n : Nat) (a1 : Int) (b2 : Int) (c3 : Int) : (lvl Try.prog HH (n + 1)).2 6 [.s (.one (.v (.int .i64 a1))), .s (.one (.v (.int .i64 b2))), .s (.one (.v (.int .i64 c3)))] [] =
    callT (lvl Try.prog HH (n + 0)).2 14 [.s (.one (.v (.int .i64 a1))), .s (.one (.v (.int .i64 41)))] [] outs14 mouts14 fun y4 m5 =>
    letIn (IntKind.wrap .i64 (y4.1 - 20) : Int) fun n6 =>
    callT (lvl Try.prog HH (n + 0)).2 14 [.s (.one (.v (.int .i64 b2))), .s (.one (.v (.int .i64 41)))] [] outs14 mouts14 fun y7 m8 =>
    letIn (IntKind.wrap .i64 (y7.1 - 20) : Int) fun n9 =>
    callT (lvl Try.prog HH (n + 0)).2 14 [.s (.one (.v (.int .i64 c3))), .s (.one (.v (.int .i64 41)))] [] outs14 mouts14 fun y10 m11 =>
    letIn (IntKind.wrap .i64 (y10.1 - 20) : Int) fun n12 =>
    letIn (IntKind.wrap .i64 ((BitVec.ofInt 64 a1 &&& BitVec.ofInt 64 8).toNat : Nat) : Int) fun n13 =>
    bif n13 == 8 then (
      callT (lvl Try.prog HH (n + 0)).2 14 [.s (.one (.v (.int .i64 a1))), .s (.one (.v (.int .i64 32769)))] [] outs14 mouts14 fun y14 m15 =>
      letIn (IntKind.wrap .i64 (y14.1 - 16384) : Int) fun n16 =>
      callT (lvl Try.prog HH (n + 0)).2 14 [.s (.one (.v (.int .i64 b2))), .s (.one (.v (.int .i64 32769)))] [] outs14 mouts14 fun y17 m18 =>
      letIn (IntKind.wrap .i64 (y17.1 - 16384) : Int) fun n19 =>
      callT (lvl Try.prog HH (n + 0)).2 14 [.s (.one (.v (.int .i64 c3))), .s (.one (.v (.int .i64 32769)))] [] outs14 mouts14 fun y20 m21 =>
      letIn (IntKind.wrap .i64 (y20.1 - 16384) : Int) fun n22 =>
      callT (lvl Try.prog HH (n + 0)).2 15 [.s (.agg true [.v (.int .i64 n16), .v (.int .i64 n19), .v (.int .i64 n22)])] [] outs15 mouts15 fun y23 m24 =>
      bif !y23.1 then (
        some (.s (.agg true [.v (.int .i64 1), .v (.int .i64 0), .v (.int .i64 0)]), []))
      else
      some (.s (.agg true [.v (.int .i64 n16), .v (.int .i64 n19), .v (.int .i64 n22)]), []))
    else
    callT (lvl Try.prog HH (n + 0)).2 15 [.s (.agg true [.v (.int .i64 n6), .v (.int .i64 n9), .v (.int .i64 n12)])] [] outs15 mouts15 fun y25 m26 =>
    bif !y25.1 then (
      some (.s (.agg true [.v (.int .i64 1), .v (.int .i64 0), .v (.int .i64 0)]), []))
    else
    some (.s (.agg true [.v (.int .i64 n6), .v (.int .i64 n9), .v (.int .i64 n12)]), []) := by
  have h := fn6_w (fun x => x) (fun x => x) n a1 b2 c3
  rw [lvlW_id] at h
  exact h

/-! armplan/support.fits -/
theorem fn19 (n : Nat) (v1 : Int) (v2 : Int) (v3 : Int) : (lvl Try.prog HH (n + 5)).2 19 [.s (.agg true [.v (.int .i64 v1), .v (.int .i64 v2), .v (.int .i64 v3)])] [] =
    Option.bind (
      bif decide (v1 < (-16384)) then (
        some (.ret, encSt S19_0_r ((false, ()), ())))
      else
      bif decide (v1 > 16384) then (
        some (.ret, encSt S19_0_r ((false, ()), ())))
      else
      bif decide (v2 < (-16384)) then (
        some (.ret, encSt S19_0_r ((false, ()), ())))
      else
      bif decide (v2 > 16384) then (
        some (.ret, encSt S19_0_r ((false, ()), ())))
      else
      bif decide (v3 < (-16384)) then (
        some (.ret, encSt S19_0_r ((false, ()), ())))
      else
      bif decide (v3 > 16384) then (
        some (.ret, encSt S19_0_r ((false, ()), ())))
      else
      some (.exit 0, encSt S19_0_e0 ((), ()))) fun p4 =>
    bif sameEx (.ret) p4.1 then (decSt S19_0_r p4.2 fun x5 =>
      some (.s (.one (.v (.bool x5.1.1))), []))
    else
    bif sameEx (.exit 0) p4.1 then (decSt S19_0_e0 p4.2 fun x6 =>
      some (.s (.one (.v (.bool true))), []))
    else
    none := by kernel_rfl

/-! armplan/support.Usable -/
theorem fn9 (n : Nat) (n1 : Int) (n2 : Int) (n3 : Int) : (lvl Try.prog HH (n + 1)).2 9 [.s (.agg true [.v (.int .i64 n1), .v (.int .i64 n2), .v (.int .i64 n3)])] [] =
    callT (lvl Try.prog HH (n + 0)).2 19 [.s (.agg true [.v (.int .i64 n1), .v (.int .i64 n2), .v (.int .i64 n3)])] [] outs19 mouts19 fun y4 m5 =>
    bif y4.1 then (
      letIn (!((n1 == 0) && ((n2 == 0) && ((n3 == 0) && true))) : Bool) fun b6 =>
      some (.s (.one (.v (.bool b6))), []))
    else
    some (.s (.one (.v (.bool false))), []) := by kernel_rfl

/-! armplan/shape.reaches -/
theorem fn40 (n : Nat) (a1 : Int) (a2 : Int) : (lvl Try.prog HH (n + 1)).2 40 [.s (.agg true [.v (.int .i64 a1), .v (.int .i64 a2)])] [] =
    bif decide (a1 ≥ (-268435456)) then (
      bif decide (a1 ≤ a2) then (
        some (.s (.one (.v (.bool (decide (a2 ≤ 268435456))))), []))
      else
      some (.s (.one (.v (.bool false))), []))
    else
    some (.s (.one (.v (.bool false))), []) := by kernel_rfl

end Go.Proofs.Ytceaambiagobbaa.Am
