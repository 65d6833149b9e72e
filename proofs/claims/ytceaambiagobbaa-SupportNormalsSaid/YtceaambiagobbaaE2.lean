/- PRINTED by amprint.py: what the abstract machine answers, function by function. -/
import Derived.Test.YtceaambiagobbaaH
import Derived.KernelRfl
set_option linter.unusedVariables false
set_option maxRecDepth 100000
namespace Go.Proofs.Ytceaambiagobbaa.Am
open Go Go.Proofs

/-! armplan/support.Normal -/
theorem loop10_0_w (w : CallF → CallF) (v : LoopF → LoopF) (n : Nat) (v6 : Int) (c7 : Int) (c8 : Int) (c9 : Int) (c10 : Int) (c11 : Int) (c12 : Int) (c13 : Int) (c14 : Int) (c15 : Int) : (lvlW w v symL Try.prog HH (n + 5)).1 ⟨10, 0, true⟩ 0 (loopOf Try.f10 0) (encSt S10_0 (((), (), (), v6, ()), ((c7, c8, c9, ()), (c10, c11, c12, ()), (c13, c14, c15, ()), ()))) =
    callT (w (lvlW w v symL Try.prog HH (n + 4)).2) 19 [.s (.agg true [.v (.int .i64 c13), .v (.int .i64 c14), .v (.int .i64 c15)])] [] outs19 mouts19 fun y16 m17 =>
    bif !y16.1 then (
      Option.bind (
        bif decide (v6 < 0) then (
          none)
        else
        letIn (IntKind.wrap .i64 (1 * (2 ^ min v6.toNat 64)) : Int) fun n18 =>
        bif n18 == 0 then (
          none)
        else
        letIn (IntKind.wrap .i64 (Int.tdiv c7 n18) : Int) fun n19 =>
        bif decide (v6 < 0) then (
          none)
        else
        letIn (IntKind.wrap .i64 (1 * (2 ^ min v6.toNat 64)) : Int) fun n20 =>
        bif n20 == 0 then (
          none)
        else
        letIn (IntKind.wrap .i64 (Int.tdiv c8 n20) : Int) fun n21 =>
        bif decide (v6 < 0) then (
          none)
        else
        letIn (IntKind.wrap .i64 (1 * (2 ^ min v6.toNat 64)) : Int) fun n22 =>
        bif n22 == 0 then (
          none)
        else
        letIn (IntKind.wrap .i64 (Int.tdiv c9 n22) : Int) fun n23 =>
        some (.exit 2, encSt S10_2_e2 (((), (), (), v6, ()), ((c7, c8, c9, ()), (c10, c11, c12, ()), (n19, n21, n23, ()), ())))) fun p24 =>
      bif sameEx (.exit 2) p24.1 then (decSt S10_2_e2 p24.2 fun x25 =>
        letIn (IntKind.wrap .i64 (x25.1.2.2.2.1 + 1) : Int) fun n26 =>
        v (lvlW w v symL Try.prog HH (n + 4)).1 ⟨10, 0, true⟩ 0 (loopOf Try.f10 0) (encSt S10_0 (((), (), (), n26, ()), ((x25.2.1.1, x25.2.1.2.1, x25.2.1.2.2.1, ()), (x25.2.2.1.1, x25.2.2.1.2.1, x25.2.2.1.2.2.1, ()), (x25.2.2.2.1.1, x25.2.2.2.1.2.1, x25.2.2.2.1.2.2.1, ()), ()))))
      else
      none)
    else
    some (.exit 0, encSt S10_0_e0 (((), (), ()), ((c10, c11, c12, ()), (c13, c14, c15, ()), ()))) := by kernel_rfl
theorem loop10_0 (n : Nat) (v6 : Int) (c7 : Int) (c8 : Int) (c9 : Int) (c10 : Int) (c11 : Int) (c12 : Int) (c13 : Int) (c14 : Int) (c15 : Int) : (lvl Try.prog HH (n + 5)).1 ⟨10, 0, true⟩ 0 (loopOf Try.f10 0) (encSt S10_0 (((), (), (), v6, ()), ((c7, c8, c9, ()), (c10, c11, c12, ()), (c13, c14, c15, ()), ()))) =
    callT (lvl Try.prog HH (n + 4)).2 19 [.s (.agg true [.v (.int .i64 c13), .v (.int .i64 c14), .v (.int .i64 c15)])] [] outs19 mouts19 fun y16 m17 =>
    bif !y16.1 then (
      Option.bind (
        bif decide (v6 < 0) then (
          none)
        else
        letIn (IntKind.wrap .i64 (1 * (2 ^ min v6.toNat 64)) : Int) fun n18 =>
        bif n18 == 0 then (
          none)
        else
        letIn (IntKind.wrap .i64 (Int.tdiv c7 n18) : Int) fun n19 =>
        bif decide (v6 < 0) then (
          none)
        else
        letIn (IntKind.wrap .i64 (1 * (2 ^ min v6.toNat 64)) : Int) fun n20 =>
        bif n20 == 0 then (
          none)
        else
        letIn (IntKind.wrap .i64 (Int.tdiv c8 n20) : Int) fun n21 =>
        bif decide (v6 < 0) then (
          none)
        else
        letIn (IntKind.wrap .i64 (1 * (2 ^ min v6.toNat 64)) : Int) fun n22 =>
        bif n22 == 0 then (
          none)
        else
        letIn (IntKind.wrap .i64 (Int.tdiv c9 n22) : Int) fun n23 =>
        some (.exit 2, encSt S10_2_e2 (((), (), (), v6, ()), ((c7, c8, c9, ()), (c10, c11, c12, ()), (n19, n21, n23, ()), ())))) fun p24 =>
      bif sameEx (.exit 2) p24.1 then (decSt S10_2_e2 p24.2 fun x25 =>
        letIn (IntKind.wrap .i64 (x25.1.2.2.2.1 + 1) : Int) fun n26 =>
        (lvl Try.prog HH (n + 4)).1 ⟨10, 0, true⟩ 0 (loopOf Try.f10 0) (encSt S10_0 (((), (), (), n26, ()), ((x25.2.1.1, x25.2.1.2.1, x25.2.1.2.2.1, ()), (x25.2.2.1.1, x25.2.2.1.2.1, x25.2.2.1.2.2.1, ()), (x25.2.2.2.1.1, x25.2.2.2.1.2.1, x25.2.2.2.1.2.2.1, ()), ()))))
      else
      none)
    else
    some (.exit 0, encSt S10_0_e0 (((), (), ()), ((c10, c11, c12, ()), (c13, c14, c15, ()), ()))) := by
  have h := loop10_0_w (fun x => x) (fun x => x) n v6 c7 c8 c9 c10 c11 c12 c13 c14 c15
  rw [lvlW_id] at h
  exact h

theorem fn10 (n : Nat) (v1 : Int) (v2 : Int) (v3 : Int) : (lvl Try.prog HH (n + 1)).2 10 [.s (.agg true [.v (.int .i64 v1), .v (.int .i64 v2), .v (.int .i64 v3)])] [] =
    ((lvl Try.prog HH (n + 0)).1 ⟨10, 0, true⟩ 0 (loopOf Try.f10 0) (encSt S10_0 (((), (), (), 1, ()), ((v1, v2, v3, ()), (0, 0, 0, ()), (v1, v2, v3, ()), ())))).bind fun p27 =>
    bif sameEx (.exit 0) p27.1 then (decSt S10_0_e0 p27.2 fun x28 =>
      letIn (!((x28.2.2.1.1 == 0) && ((x28.2.2.1.2.1 == 0) && ((x28.2.2.1.2.2.1 == 0) && true))) : Bool) fun b29 =>
      some (.tup [.agg true [.v (.int .i64 x28.2.2.1.1), .v (.int .i64 x28.2.2.1.2.1), .v (.int .i64 x28.2.2.1.2.2.1)], .one (.v (.bool b29))], []))
    else
    none := by kernel_rfl

/-! armplan/armplanref10.Normal -/
theorem loop17_0 (n : Nat) (v10 : Int) (c11 : Int) (c12 : Int) (c13 : Int) (c14 : Int) (c15 : Int) (c16 : Int) : (lvl Try.prog HH (n + 1)).1 ⟨17, 0, true⟩ 0 (loopOf Try.f17 0) (encSt S17_0 (((), (), v10, ()), ((c11, c12, c13, ()), (c14, c15, c16, ()), ()))) =
    bif v10 == 0 then (
      none)
    else
    letIn (IntKind.wrap .i64 (Int.tdiv c11 v10) : Int) fun n17 =>
    bif v10 == 0 then (
      none)
    else
    letIn (IntKind.wrap .i64 (Int.tdiv c12 v10) : Int) fun n18 =>
    bif v10 == 0 then (
      none)
    else
    letIn (IntKind.wrap .i64 (Int.tdiv c13 v10) : Int) fun n19 =>
    callT (lvl Try.prog HH (n + 0)).2 28 [.s (.agg true [.v (.int .i64 n17), .v (.int .i64 n18), .v (.int .i64 n19)]), .s (.one (.v (.int .i64 16384)))] [] outs28 mouts28 fun y20 m21 =>
    bif y20.1 then (
      some (.ret, encSt S17_0_r (((), true, ()), ((n17, n18, n19, ()), ()))))
    else
    letIn (IntKind.wrap .i64 (v10 * 2) : Int) fun n22 =>
    (lvl Try.prog HH (n + 0)).1 ⟨17, 0, true⟩ 0 (loopOf Try.f17 0) (encSt S17_0 (((), (), n22, ()), ((c11, c12, c13, ()), (c14, c15, c16, ()), ()))) := by kernel_rfl

theorem fn17 (n : Nat) (v1 : Int) (v2 : Int) (v3 : Int) : (lvl Try.prog HH (n + 1)).2 17 [.s (.agg true [.v (.int .i64 v1), .v (.int .i64 v2), .v (.int .i64 v3)])] [] =
    letIn ((v1 == 0) && ((v2 == 0) && ((v3 == 0) && true)) : Bool) fun b4 =>
    bif b4 then (
      some (.tup [.agg true [.v (.int .i64 v1), .v (.int .i64 v2), .v (.int .i64 v3)], .one (.v (.bool false))], []))
    else
    ((lvl Try.prog HH (n + 0)).1 ⟨17, 0, true⟩ 0 (loopOf Try.f17 0) (encSt S17_0 (((), (), 1, ()), ((v1, v2, v3, ()), (0, 0, 0, ()), ())))).bind fun p23 =>
    bif sameEx (.ret) p23.1 then (decSt S17_0_r p23.2 fun x24 =>
      some (.tup [.agg true [.v (.int .i64 x24.2.1.1), .v (.int .i64 x24.2.1.2.1), .v (.int .i64 x24.2.1.2.2.1)], .one (.v (.bool x24.1.2.1))], []))
    else
    none := by kernel_rfl

/-! armplan/armplanref1.Root -/
theorem loop41_0 (n : Nat) (v2 : Int) (v3 : Int) (v4 : Int) : (lvl Try.prog HH (n + 1)).1 ⟨41, 0, true⟩ 0 (loopOf Try.f41 0) (encSt S41_0 ((v2, v3, v4, ()), ())) =
    letIn (IntKind.wrap .i64 (v4 - v3) : Int) fun n5 =>
    bif decide (n5 > 1) then (
      letIn (IntKind.wrap .i64 (v4 - v3) : Int) fun n6 =>
      letIn (IntKind.wrap .i64 (Int.tdiv n6 2) : Int) fun n7 =>
      letIn (IntKind.wrap .i64 (v3 + n7) : Int) fun n8 =>
      bif n8 == 0 then (
        none)
      else
      letIn (IntKind.wrap .i64 (Int.tdiv v2 n8) : Int) fun n9 =>
      bif decide (n8 ≤ n9) then (
        (lvl Try.prog HH (n + 0)).1 ⟨41, 0, true⟩ 0 (loopOf Try.f41 0) (encSt S41_0 ((v2, n8, v4, ()), ())))
      else
      (lvl Try.prog HH (n + 0)).1 ⟨41, 0, true⟩ 0 (loopOf Try.f41 0) (encSt S41_0 ((v2, v3, n8, ()), ())))
    else
    some (.exit 0, encSt S41_0_e0 ((v3, ()), ())) := by kernel_rfl

theorem fn41 (n : Nat) (n1 : Int) : (lvl Try.prog HH (n + 1)).2 41 [.s (.one (.v (.int .i64 n1)))] [] =
    bif decide (n1 < 1) then (
      some (.s (.one (.v (.int .i64 0))), []))
    else
    ((lvl Try.prog HH (n + 0)).1 ⟨41, 0, true⟩ 0 (loopOf Try.f41 0) (encSt S41_0 ((n1, 1, 4294967296, ()), ()))).bind fun p10 =>
    bif sameEx (.exit 0) p10.1 then (decSt S41_0_e0 p10.2 fun x11 =>
      some (.s (.one (.v (.int .i64 x11.1.1))), []))
    else
    none := by kernel_rfl

/-! armplan/armplanref1.RootUp -/
theorem fn31 (n : Nat) (n1 : Int) : (lvl Try.prog HH (n + 1)).2 31 [.s (.one (.v (.int .i64 n1)))] [] =
    callT (lvl Try.prog HH (n + 0)).2 41 [.s (.one (.v (.int .i64 n1)))] [] outs41 mouts41 fun y2 m3 =>
    bif decide (n1 > 0) then (
      letIn (IntKind.wrap .i64 (y2.1 * y2.1) : Int) fun n4 =>
      bif decide (n4 < n1) then (
        letIn (IntKind.wrap .i64 (y2.1 + 1) : Int) fun n5 =>
        some (.s (.one (.v (.int .i64 n5))), []))
      else
      some (.s (.one (.v (.int .i64 y2.1))), []))
    else
    some (.s (.one (.v (.int .i64 y2.1))), []) := by kernel_rfl

end Go.Proofs.Ytceaambiagobbaa.Am
