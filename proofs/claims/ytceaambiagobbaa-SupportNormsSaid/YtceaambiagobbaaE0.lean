/- PRINTED by amprint.py: what the abstract machine answers, function by function. -/
import Derived.Test.YtceaambiagobbaaH
import Derived.KernelRfl
set_option linter.unusedVariables false
set_option maxRecDepth 100000
namespace Go.Proofs.Ytceaambiagobbaa.Am
open Go Go.Proofs

/-! armplan/support.fits -/
theorem fn19 (n : Nat) (v1 : Int) (v2 : Int) (v3 : Int) : (lvl Try.prog HH (n + 5)).2 19 [.s (.agg true [.v (.int .i64 v1), .v (.int .i64 v2), .v (.int .i64 v3)])] [] =
    Option.bind (
      bif decide (v1 < (-16384)) then (
        some (.ret, encSt S19_0_r ((false, ()), ())))
      else
      bif decide (v1 > 16384) then (
        some (.ret, encSt S19_0_r ((false, ()), ())))
      else
      bif decide (v2 < (-16384)) then (
        some (.ret, encSt S19_0_r ((false, ()), ())))
      else
      bif decide (v2 > 16384) then (
        some (.ret, encSt S19_0_r ((false, ()), ())))
      else
      bif decide (v3 < (-16384)) then (
        some (.ret, encSt S19_0_r ((false, ()), ())))
      else
      bif decide (v3 > 16384) then (
        some (.ret, encSt S19_0_r ((false, ()), ())))
      else
      some (.exit 0, encSt S19_0_e0 ((), ()))) fun p4 =>
    bif sameEx (.ret) p4.1 then (decSt S19_0_r p4.2 fun x5 =>
      some (.s (.one (.v (.bool x5.1.1))), []))
    else
    bif sameEx (.exit 0) p4.1 then (decSt S19_0_e0 p4.2 fun x6 =>
      some (.s (.one (.v (.bool true))), []))
    else
    none := by kernel_rfl

/-! armplan/support.Normal -/
theorem loop10_0_w (w : CallF → CallF) (v : LoopF → LoopF) (n : Nat) (v6 : Int) (c7 : Int) (c8 : Int) (c9 : Int) (c10 : Int) (c11 : Int) (c12 : Int) (c13 : Int) (c14 : Int) (c15 : Int) : (lvlW w v symL Try.prog HH (n + 5)).1 ⟨10, 0, true⟩ 0 (loopOf Try.f10 0) (encSt S10_0 (((), (), (), v6, ()), ((c7, c8, c9, ()), (c10, c11, c12, ()), (c13, c14, c15, ()), ()))) =
    callT (w (lvlW w v symL Try.prog HH (n + 4)).2) 19 [.s (.agg true [.v (.int .i64 c13), .v (.int .i64 c14), .v (.int .i64 c15)])] [] outs19 mouts19 fun y16 m17 =>
    bif !y16.1 then (
      Option.bind (
        bif decide (v6 < 0) then (
          none)
        else
        letIn (IntKind.wrap .i64 (1 * (2 ^ min v6.toNat 64)) : Int) fun n18 =>
        bif n18 == 0 then (
          none)
        else
        letIn (IntKind.wrap .i64 (Int.tdiv c7 n18) : Int) fun n19 =>
        bif decide (v6 < 0) then (
          none)
        else
        letIn (IntKind.wrap .i64 (1 * (2 ^ min v6.toNat 64)) : Int) fun n20 =>
        bif n20 == 0 then (
          none)
        else
        letIn (IntKind.wrap .i64 (Int.tdiv c8 n20) : Int) fun n21 =>
        bif decide (v6 < 0) then (
          none)
        else
        letIn (IntKind.wrap .i64 (1 * (2 ^ min v6.toNat 64)) : Int) fun n22 =>
        bif n22 == 0 then (
          none)
        else
        letIn (IntKind.wrap .i64 (Int.tdiv c9 n22) : Int) fun n23 =>
        some (.exit 2, encSt S10_2_e2 (((), (), (), v6, ()), ((c7, c8, c9, ()), (c10, c11, c12, ()), (n19, n21, n23, ()), ())))) fun p24 =>
      bif sameEx (.exit 2) p24.1 then (decSt S10_2_e2 p24.2 fun x25 =>
        letIn (IntKind.wrap .i64 (x25.1.2.2.2.1 + 1) : Int) fun n26 =>
        v (lvlW w v symL Try.prog HH (n + 4)).1 ⟨10, 0, true⟩ 0 (loopOf Try.f10 0) (encSt S10_0 (((), (), (), n26, ()), ((x25.2.1.1, x25.2.1.2.1, x25.2.1.2.2.1, ()), (x25.2.2.1.1, x25.2.2.1.2.1, x25.2.2.1.2.2.1, ()), (x25.2.2.2.1.1, x25.2.2.2.1.2.1, x25.2.2.2.1.2.2.1, ()), ()))))
      else
      none)
    else
    some (.exit 0, encSt S10_0_e0 (((), (), ()), ((c10, c11, c12, ()), (c13, c14, c15, ()), ()))) := by kernel_rfl
theorem loop10_0 (n : Nat) (v6 : Int) (c7 : Int) (c8 : Int) (c9 : Int) (c10 : Int) (c11 : Int) (c12 : Int) (c13 : Int) (c14 : Int) (c15 : Int) : (lvl Try.prog HH (n + 5)).1 ⟨10, 0, true⟩ 0 (loopOf Try.f10 0) (encSt S10_0 (((), (), (), v6, ()), ((c7, c8, c9, ()), (c10, c11, c12, ()), (c13, c14, c15, ()), ()))) =
    callT (lvl Try.prog HH (n + 4)).2 19 [.s (.agg true [.v (.int .i64 c13), .v (.int .i64 c14), .v (.int .i64 c15)])] [] outs19 mouts19 fun y16 m17 =>
    bif !y16.1 then (
      Option.bind (
        bif decide (v6 < 0) then (
          none)
        else
        letIn (IntKind.wrap .i64 (1 * (2 ^ min v6.toNat 64)) : Int) fun n18 =>
        bif n18 == 0 then (
          none)
        else
        letIn (IntKind.wrap .i64 (Int.tdiv c7 n18) : Int) fun n19 =>
        bif decide (v6 < 0) then (
          none)
        else
        letIn (IntKind.wrap .i64 (1 * (2 ^ min v6.toNat 64)) : Int) fun n20 =>
        bif n20 == 0 then (
          none)
        else
        letIn (IntKind.wrap .i64 (Int.tdiv c8 n20) : Int) fun n21 =>
        bif decide (v6 < 0) then (
          none)
        else
        letIn (IntKind.wrap .i64 (1 * (2 ^ min v6.toNat 64)) : Int) fun n22 =>
        bif n22 == 0 then (
          none)
        else
        letIn (IntKind.wrap .i64 (Int.tdiv c9 n22) : Int) fun n23 =>
        some (.exit 2, encSt S10_2_e2 (((), (), (), v6, ()), ((c7, c8, c9, ()), (c10, c11, c12, ()), (n19, n21, n23, ()), ())))) fun p24 =>
      bif sameEx (.exit 2) p24.1 then (decSt S10_2_e2 p24.2 fun x25 =>
        letIn (IntKind.wrap .i64 (x25.1.2.2.2.1 + 1) : Int) fun n26 =>
        (lvl Try.prog HH (n + 4)).1 ⟨10, 0, true⟩ 0 (loopOf Try.f10 0) (encSt S10_0 (((), (), (), n26, ()), ((x25.2.1.1, x25.2.1.2.1, x25.2.1.2.2.1, ()), (x25.2.2.1.1, x25.2.2.1.2.1, x25.2.2.1.2.2.1, ()), (x25.2.2.2.1.1, x25.2.2.2.1.2.1, x25.2.2.2.1.2.2.1, ()), ()))))
      else
      none)
    else
    some (.exit 0, encSt S10_0_e0 (((), (), ()), ((c10, c11, c12, ()), (c13, c14, c15, ()), ()))) := by
  have h := loop10_0_w (fun x => x) (fun x => x) n v6 c7 c8 c9 c10 c11 c12 c13 c14 c15
  rw [lvlW_id] at h
  exact h

theorem fn10 (n : Nat) (v1 : Int) (v2 : Int) (v3 : Int) : (lvl Try.prog HH (n + 1)).2 10 [.s (.agg true [.v (.int .i64 v1), .v (.int .i64 v2), .v (.int .i64 v3)])] [] =
    ((lvl Try.prog HH (n + 0)).1 ⟨10, 0, true⟩ 0 (loopOf Try.f10 0) (encSt S10_0 (((), (), (), 1, ()), ((v1, v2, v3, ()), (0, 0, 0, ()), (v1, v2, v3, ()), ())))).bind fun p27 =>
    bif sameEx (.exit 0) p27.1 then (decSt S10_0_e0 p27.2 fun x28 =>
      letIn (!((x28.2.2.1.1 == 0) && ((x28.2.2.1.2.1 == 0) && ((x28.2.2.1.2.2.1 == 0) && true))) : Bool) fun b29 =>
      some (.tup [.agg true [.v (.int .i64 x28.2.2.1.1), .v (.int .i64 x28.2.2.1.2.1), .v (.int .i64 x28.2.2.1.2.2.1)], .one (.v (.bool b29))], []))
    else
    none := by kernel_rfl

/-! armplan/support.Usable -/
theorem fn9 (n : Nat) (n1 : Int) (n2 : Int) (n3 : Int) : (lvl Try.prog HH (n + 1)).2 9 [.s (.agg true [.v (.int .i64 n1), .v (.int .i64 n2), .v (.int .i64 n3)])] [] =
    callT (lvl Try.prog HH (n + 0)).2 19 [.s (.agg true [.v (.int .i64 n1), .v (.int .i64 n2), .v (.int .i64 n3)])] [] outs19 mouts19 fun y4 m5 =>
    bif y4.1 then (
      letIn (!((n1 == 0) && ((n2 == 0) && ((n3 == 0) && true))) : Bool) fun b6 =>
      some (.s (.one (.v (.bool b6))), []))
    else
    some (.s (.one (.v (.bool false))), []) := by kernel_rfl

/-! armplan/shape.reaches -/
theorem fn40 (n : Nat) (a1 : Int) (a2 : Int) : (lvl Try.prog HH (n + 1)).2 40 [.s (.agg true [.v (.int .i64 a1), .v (.int .i64 a2)])] [] =
    bif decide (a1 ≥ (-268435456)) then (
      bif decide (a1 ≤ a2) then (
        some (.s (.one (.v (.bool (decide (a2 ≤ 268435456))))), []))
      else
      some (.s (.one (.v (.bool false))), []))
    else
    some (.s (.one (.v (.bool false))), []) := by kernel_rfl

/-! armplan/shape.Placed -/
theorem loop29_0 (n : Nat) (v2 : List (List D1)) (v3 : List (List D1)) (v4 : Int) (v5 : Int) : (lvl Try.prog HH (n + 1)).1 ⟨29, 0, true⟩ 0 (loopOf Try.f29 0) (encSt S29_0 ((v2, v3, v4, v5, ()), ())) =
    bif decide (v5 < v4) then (
      bif decide (0 ≤ v5) then (
        (nth v3 v5.toNat).bind fun cs6 =>
        bif Nat.beq ((cs6.drop 0).take 6).length 6 then (
          decCts [.int .i64, .int .i64, .int .i64, .int .i64, .int .i64, .int .i64] ((cs6.drop 0).take 6) fun c7 =>
          callT (lvl Try.prog HH (n + 0)).2 40 [.s (.agg true [.v (.int .i64 c7.1), .v (.int .i64 c7.2.1)])] [] outs40 mouts40 fun y8 m9 =>
          bif !y8.1 then (
            some (.ret, encSt S29_0_r ((false, ()), ())))
          else
          callT (lvl Try.prog HH (n + 0)).2 40 [.s (.agg true [.v (.int .i64 c7.2.2.1), .v (.int .i64 c7.2.2.2.1)])] [] outs40 mouts40 fun y10 m11 =>
          bif !y10.1 then (
            some (.ret, encSt S29_0_r ((false, ()), ())))
          else
          callT (lvl Try.prog HH (n + 0)).2 40 [.s (.agg true [.v (.int .i64 c7.2.2.2.2.1), .v (.int .i64 c7.2.2.2.2.2.1)])] [] outs40 mouts40 fun y12 m13 =>
          bif !y12.1 then (
            some (.ret, encSt S29_0_r ((false, ()), ())))
          else
          letIn (IntKind.wrap .i64 (v5 + 1) : Int) fun n14 =>
          (lvl Try.prog HH (n + 0)).1 ⟨29, 0, true⟩ 0 (loopOf Try.f29 0) (encSt S29_0 ((v2, v3, v4, n14, ()), ())))
        else
        none)
      else
      none)
    else
    some (.exit 0, encSt S29_0_e0 ((v2, ()), ())) := by kernel_rfl

theorem fn29 (n : Nat) (l1 : List (List D1)) : (lvl Try.prog HH (n + 1)).2 29 [.s (.one (.fr 6 l1))] [] =
    ((lvl Try.prog HH (n + 0)).1 ⟨29, 0, true⟩ 0 (loopOf Try.f29 0) (encSt S29_0 ((l1, l1, (((l1.length : Nat) : Int)), 0, ()), ()))).bind fun p15 =>
    bif sameEx (.ret) p15.1 then (decSt S29_0_r p15.2 fun x16 =>
      some (.s (.one (.v (.bool x16.1.1))), []))
    else
    bif sameEx (.exit 0) p15.1 then (decSt S29_0_e0 p15.2 fun x17 =>
      bif decide ((((x17.1.1.length : Nat) : Int)) ≥ 1) then (
        some (.s (.one (.v (.bool (decide ((((x17.1.1.length : Nat) : Int)) ≤ 8))))), []))
      else
      some (.s (.one (.v (.bool false))), []))
    else
    none := by kernel_rfl

end Go.Proofs.Ytceaambiagobbaa.Am
