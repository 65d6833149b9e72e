/- PRINTED by amprint.py: what the abstract machine answers, function by function. -/
import Derived.Test.YtcldcnolhmmegaaH
import Derived.KernelRfl
set_option linter.unusedVariables false
set_option maxRecDepth 100000
namespace Go.Proofs.Ytcldcnolhmmegaa.Am
open Go Go.Proofs

/-! armplan/support.Normal -/
theorem loop53_0_w (w : CallF → CallF) (v : LoopF → LoopF) (n : Nat) (v6 : Int) (c7 : Int) (c8 : Int) (c9 : Int) (c10 : Int) (c11 : Int) (c12 : Int) (c13 : Int) (c14 : Int) (c15 : Int) : (lvlW w v symL Try.prog HH (n + 5)).1 ⟨53, 0, true⟩ 0 (loopOf Try.f53 0) (encSt S53_0 (((), (), (), v6, ()), ((c7, c8, c9, ()), (c10, c11, c12, ()), (c13, c14, c15, ()), ()))) =
    callT (w (lvlW w v symL Try.prog HH (n + 4)).2) 70 [.s (.agg true [.v (.int .i64 c13), .v (.int .i64 c14), .v (.int .i64 c15)])] [] outs70 mouts70 fun y16 m17 =>
    bif !y16.1 then (
      Option.bind (
        bif decide (v6 < 0) then (
          none)
        else
        letIn (IntKind.wrap .i64 (1 * (2 ^ min v6.toNat 64)) : Int) fun n18 =>
        bif n18 == 0 then (
          none)
        else
        letIn (IntKind.wrap .i64 (Int.tdiv c7 n18) : Int) fun n19 =>
        bif decide (v6 < 0) then (
          none)
        else
        letIn (IntKind.wrap .i64 (1 * (2 ^ min v6.toNat 64)) : Int) fun n20 =>
        bif n20 == 0 then (
          none)
        else
        letIn (IntKind.wrap .i64 (Int.tdiv c8 n20) : Int) fun n21 =>
        bif decide (v6 < 0) then (
          none)
        else
        letIn (IntKind.wrap .i64 (1 * (2 ^ min v6.toNat 64)) : Int) fun n22 =>
        bif n22 == 0 then (
          none)
        else
        letIn (IntKind.wrap .i64 (Int.tdiv c9 n22) : Int) fun n23 =>
        some (.exit 2, encSt S53_2_e2 (((), (), (), v6, ()), ((c7, c8, c9, ()), (c10, c11, c12, ()), (n19, n21, n23, ()), ())))) fun p24 =>
      bif sameEx (.exit 2) p24.1 then (decSt S53_2_e2 p24.2 fun x25 =>
        letIn (IntKind.wrap .i64 (x25.1.2.2.2.1 + 1) : Int) fun n26 =>
        v (lvlW w v symL Try.prog HH (n + 4)).1 ⟨53, 0, true⟩ 0 (loopOf Try.f53 0) (encSt S53_0 (((), (), (), n26, ()), ((x25.2.1.1, x25.2.1.2.1, x25.2.1.2.2.1, ()), (x25.2.2.1.1, x25.2.2.1.2.1, x25.2.2.1.2.2.1, ()), (x25.2.2.2.1.1, x25.2.2.2.1.2.1, x25.2.2.2.1.2.2.1, ()), ()))))
      else
      none)
    else
    some (.exit 0, encSt S53_0_e0 (((), (), ()), ((c10, c11, c12, ()), (c13, c14, c15, ()), ()))) := by kernel_rfl
theorem loop53_0 (n : Nat) (v6 : Int) (c7 : Int) (c8 : Int) (c9 : Int) (c10 : Int) (c11 : Int) (c12 : Int) (c13 : Int) (c14 : Int) (c15 : Int) : (lvl Try.prog HH (n + 5)).1 ⟨53, 0, true⟩ 0 (loopOf Try.f53 0) (encSt S53_0 (((), (), (), v6, ()), ((c7, c8, c9, ()), (c10, c11, c12, ()), (c13, c14, c15, ()), ()))) =
    callT (lvl Try.prog HH (n + 4)).2 70 [.s (.agg true [.v (.int .i64 c13), .v (.int .i64 c14), .v (.int .i64 c15)])] [] outs70 mouts70 fun y16 m17 =>
    bif !y16.1 then (
      Option.bind (
        bif decide (v6 < 0) then (
          none)
        else
        letIn (IntKind.wrap .i64 (1 * (2 ^ min v6.toNat 64)) : Int) fun n18 =>
        bif n18 == 0 then (
          none)
        else
        letIn (IntKind.wrap .i64 (Int.tdiv c7 n18) : Int) fun n19 =>
        bif decide (v6 < 0) then (
          none)
        else
        letIn (IntKind.wrap .i64 (1 * (2 ^ min v6.toNat 64)) : Int) fun n20 =>
        bif n20 == 0 then (
          none)
        else
        letIn (IntKind.wrap .i64 (Int.tdiv c8 n20) : Int) fun n21 =>
        bif decide (v6 < 0) then (
          none)
        else
        letIn (IntKind.wrap .i64 (1 * (2 ^ min v6.toNat 64)) : Int) fun n22 =>
        bif n22 == 0 then (
          none)
        else
        letIn (IntKind.wrap .i64 (Int.tdiv c9 n22) : Int) fun n23 =>
        some (.exit 2, encSt S53_2_e2 (((), (), (), v6, ()), ((c7, c8, c9, ()), (c10, c11, c12, ()), (n19, n21, n23, ()), ())))) fun p24 =>
      bif sameEx (.exit 2) p24.1 then (decSt S53_2_e2 p24.2 fun x25 =>
        letIn (IntKind.wrap .i64 (x25.1.2.2.2.1 + 1) : Int) fun n26 =>
        (lvl Try.prog HH (n + 4)).1 ⟨53, 0, true⟩ 0 (loopOf Try.f53 0) (encSt S53_0 (((), (), (), n26, ()), ((x25.2.1.1, x25.2.1.2.1, x25.2.1.2.2.1, ()), (x25.2.2.1.1, x25.2.2.1.2.1, x25.2.2.1.2.2.1, ()), (x25.2.2.2.1.1, x25.2.2.2.1.2.1, x25.2.2.2.1.2.2.1, ()), ()))))
      else
      none)
    else
    some (.exit 0, encSt S53_0_e0 (((), (), ()), ((c10, c11, c12, ()), (c13, c14, c15, ()), ()))) := by
  have h := loop53_0_w (fun x => x) (fun x => x) n v6 c7 c8 c9 c10 c11 c12 c13 c14 c15
  rw [lvlW_id] at h
  exact h

theorem fn53 (n : Nat) (v1 : Int) (v2 : Int) (v3 : Int) : (lvl Try.prog HH (n + 1)).2 53 [.s (.agg true [.v (.int .i64 v1), .v (.int .i64 v2), .v (.int .i64 v3)])] [] =
    ((lvl Try.prog HH (n + 0)).1 ⟨53, 0, true⟩ 0 (loopOf Try.f53 0) (encSt S53_0 (((), (), (), 1, ()), ((v1, v2, v3, ()), (0, 0, 0, ()), (v1, v2, v3, ()), ())))).bind fun p27 =>
    bif sameEx (.exit 0) p27.1 then (decSt S53_0_e0 p27.2 fun x28 =>
      letIn (!((x28.2.2.1.1 == 0) && ((x28.2.2.1.2.1 == 0) && ((x28.2.2.1.2.2.1 == 0) && true))) : Bool) fun b29 =>
      some (.tup [.agg true [.v (.int .i64 x28.2.2.1.1), .v (.int .i64 x28.2.2.1.2.1), .v (.int .i64 x28.2.2.1.2.2.1)], .one (.v (.bool b29))], []))
    else
    none := by kernel_rfl

/-! armplan/nearest.least -/
theorem loop54_0 (n : Nat) (v5 : List (List D1)) (v6 : Int) (v7 : List (List D1)) (v8 : Int) (v9 : Int) (c10 : Int) (c11 : Int) (c12 : Int) : (lvl Try.prog HH (n + 1)).1 ⟨54, 0, true⟩ 0 (loopOf Try.f54 0) (encSt S54_0 ((v5, (), v6, v7, v8, v9, ()), ((c10, c11, c12, ()), ()))) =
    bif decide (v9 < v8) then (
      bif decide (0 ≤ v9) then (
        (nth v7 v9.toNat).bind fun cs13 =>
        bif Nat.beq ((cs13.drop 0).take 3).length 3 then (
          decCts [.int .i64, .int .i64, .int .i64] ((cs13.drop 0).take 3) fun c14 =>
          callT (lvl Try.prog HH (n + 0)).2 52 [.s (.agg true [.v (.int .i64 c10), .v (.int .i64 c11), .v (.int .i64 c12)]), .s (.agg true [.v (.int .i64 c14.1), .v (.int .i64 c14.2.1), .v (.int .i64 c14.2.2.1)])] [] outs52 mouts52 fun y15 m16 =>
          bif decide (0 ≤ v6) then (
            (nth v5 v6.toNat).bind fun cs17 =>
            bif Nat.beq ((cs17.drop 0).take 3).length 3 then (
              decCts [.int .i64, .int .i64, .int .i64] ((cs17.drop 0).take 3) fun c18 =>
              callT (lvl Try.prog HH (n + 0)).2 52 [.s (.agg true [.v (.int .i64 c10), .v (.int .i64 c11), .v (.int .i64 c12)]), .s (.agg true [.v (.int .i64 c18.1), .v (.int .i64 c18.2.1), .v (.int .i64 c18.2.2.1)])] [] outs52 mouts52 fun y19 m20 =>
              bif decide (y15.1 < y19.1) then (
                letIn (IntKind.wrap .i64 (v9 + 1) : Int) fun n21 =>
                (lvl Try.prog HH (n + 0)).1 ⟨54, 0, true⟩ 0 (loopOf Try.f54 0) (encSt S54_0 ((v5, (), v9, v7, v8, n21, ()), ((c10, c11, c12, ()), ()))))
              else
              letIn (IntKind.wrap .i64 (v9 + 1) : Int) fun n22 =>
              (lvl Try.prog HH (n + 0)).1 ⟨54, 0, true⟩ 0 (loopOf Try.f54 0) (encSt S54_0 ((v5, (), v6, v7, v8, n22, ()), ((c10, c11, c12, ()), ()))))
            else
            none)
          else
          none)
        else
        none)
      else
      none)
    else
    some (.exit 0, encSt S54_0_e0 ((v6, ()), ())) := by kernel_rfl

theorem fn54 (n : Nat) (n1 : Int) (n2 : Int) (n3 : Int) (l4 : List (List D1)) : (lvl Try.prog HH (n + 1)).2 54 [.s (.agg true [.v (.int .i64 n1), .v (.int .i64 n2), .v (.int .i64 n3)]), .s (.one (.fr 3 l4))] [] =
    ((lvl Try.prog HH (n + 0)).1 ⟨54, 0, true⟩ 0 (loopOf Try.f54 0) (encSt S54_0 ((l4, (), 0, l4, (((l4.length : Nat) : Int)), 0, ()), ((n1, n2, n3, ()), ())))).bind fun p23 =>
    bif sameEx (.exit 0) p23.1 then (decSt S54_0_e0 p23.2 fun x24 =>
      some (.s (.one (.v (.int .i64 x24.1.1))), []))
    else
    none := by kernel_rfl

/-! armplan/nearest.minus -/
theorem fn55 (n : Nat) (x1 : Int) (x2 : Int) (x3 : Int) (y4 : Int) (y5 : Int) (y6 : Int) : (lvl Try.prog HH (n + 1)).2 55 [.s (.agg true [.v (.int .i64 x1), .v (.int .i64 x2), .v (.int .i64 x3)]), .s (.agg true [.v (.int .i64 y4), .v (.int .i64 y5), .v (.int .i64 y6)])] [] =
    letIn (IntKind.wrap .i64 (x1 - y4) : Int) fun n7 =>
    letIn (IntKind.wrap .i64 (x2 - y5) : Int) fun n8 =>
    letIn (IntKind.wrap .i64 (x3 - y6) : Int) fun n9 =>
    some (.s (.agg true [.v (.int .i64 n7), .v (.int .i64 n8), .v (.int .i64 n9)]), []) := by kernel_rfl

/-! armplan/support.Usable -/
theorem fn71 (n : Nat) (n1 : Int) (n2 : Int) (n3 : Int) : (lvl Try.prog HH (n + 1)).2 71 [.s (.agg true [.v (.int .i64 n1), .v (.int .i64 n2), .v (.int .i64 n3)])] [] =
    callT (lvl Try.prog HH (n + 0)).2 70 [.s (.agg true [.v (.int .i64 n1), .v (.int .i64 n2), .v (.int .i64 n3)])] [] outs70 mouts70 fun y4 m5 =>
    bif y4.1 then (
      letIn (!((n1 == 0) && ((n2 == 0) && ((n3 == 0) && true))) : Bool) fun b6 =>
      some (.s (.one (.v (.bool b6))), []))
    else
    some (.s (.one (.v (.bool false))), []) := by kernel_rfl

/-! armplan/fixed.Root -/
theorem loop76_0 (n : Nat) (v2 : Int) (v3 : Int) (v4 : Int) : (lvl Try.prog HH (n + 1)).1 ⟨76, 0, true⟩ 0 (loopOf Try.f76 0) (encSt S76_0 ((v2, v3, v4, ()), ())) =
    bif decide (v4 < 32) then (
      letIn (IntKind.wrap .i64 (31 - v4) : Int) fun n5 =>
      bif decide (n5 < 0) then (
        none)
      else
      letIn (IntKind.wrap .i64 (1 * (2 ^ min n5.toNat 64)) : Int) fun n6 =>
      letIn (IntKind.wrap .i64 (v3 + n6) : Int) fun n7 =>
      bif n7 == 0 then (
        none)
      else
      letIn (IntKind.wrap .i64 (Int.tdiv v2 n7) : Int) fun n8 =>
      bif decide (n7 ≤ n8) then (
        letIn (IntKind.wrap .i64 (v4 + 1) : Int) fun n9 =>
        (lvl Try.prog HH (n + 0)).1 ⟨76, 0, true⟩ 0 (loopOf Try.f76 0) (encSt S76_0 ((v2, n7, n9, ()), ())))
      else
      letIn (IntKind.wrap .i64 (v4 + 1) : Int) fun n10 =>
      (lvl Try.prog HH (n + 0)).1 ⟨76, 0, true⟩ 0 (loopOf Try.f76 0) (encSt S76_0 ((v2, v3, n10, ()), ())))
    else
    some (.exit 0, encSt S76_0_e0 ((v3, ()), ())) := by kernel_rfl

theorem fn76 (n : Nat) (n1 : Int) : (lvl Try.prog HH (n + 1)).2 76 [.s (.one (.v (.int .i64 n1)))] [] =
    bif decide (n1 ≤ 0) then (
      some (.s (.one (.v (.int .i64 0))), []))
    else
    ((lvl Try.prog HH (n + 0)).1 ⟨76, 0, true⟩ 0 (loopOf Try.f76 0) (encSt S76_0 ((n1, 0, 0, ()), ()))).bind fun p11 =>
    bif sameEx (.exit 0) p11.1 then (decSt S76_0_e0 p11.2 fun x12 =>
      some (.s (.one (.v (.int .i64 x12.1.1))), []))
    else
    none := by kernel_rfl

/-! armplan/fixed.RootUp -/
theorem fn72 (n : Nat) (n1 : Int) : (lvl Try.prog HH (n + 1)).2 72 [.s (.one (.v (.int .i64 n1)))] [] =
    callT (lvl Try.prog HH (n + 0)).2 76 [.s (.one (.v (.int .i64 n1)))] [] outs76 mouts76 fun y2 m3 =>
    letIn (IntKind.wrap .i64 (y2.1 * y2.1) : Int) fun n4 =>
    bif decide (n4 < n1) then (
      letIn (IntKind.wrap .i64 (y2.1 + 1) : Int) fun n5 =>
      some (.s (.one (.v (.int .i64 n5))), []))
    else
    some (.s (.one (.v (.int .i64 y2.1))), []) := by kernel_rfl

/-! armplan/support.Norm -/
theorem fn56 (n : Nat) (n1 : Int) (n2 : Int) (n3 : Int) : (lvl Try.prog HH (n + 1)).2 56 [.s (.agg true [.v (.int .i64 n1), .v (.int .i64 n2), .v (.int .i64 n3)])] [] =
    callT (lvl Try.prog HH (n + 0)).2 71 [.s (.agg true [.v (.int .i64 n1), .v (.int .i64 n2), .v (.int .i64 n3)])] [] outs71 mouts71 fun y4 m5 =>
    bif !y4.1 then (
      some (.s (.one (.v (.int .i64 0))), []))
    else
    letIn (IntKind.wrap .i64 (n1 * n1) : Int) fun n6 =>
    letIn (IntKind.wrap .i64 (n2 * n2) : Int) fun n7 =>
    letIn (IntKind.wrap .i64 (n6 + n7) : Int) fun n8 =>
    letIn (IntKind.wrap .i64 (n3 * n3) : Int) fun n9 =>
    letIn (IntKind.wrap .i64 (n8 + n9) : Int) fun n10 =>
    callT (lvl Try.prog HH (n + 0)).2 72 [.s (.one (.v (.int .i64 n10)))] [] outs72 mouts72 fun y11 m12 =>
    some (.s (.one (.v (.int .i64 y11.1))), []) := by kernel_rfl

/-! (armplan/nearest.weights).move -/
theorem loop73s0_0 (n : Nat) (v4 : Int) (v5 : Int) (v6 : Int) (v7 : Int) (v8 : Int) (es9 : List (List D1)) : (lvl Try.prog HH (n + 1)).1 ⟨73, 1, false⟩ 0 (loopOf Try.f73 0) (encSt S73s0_0 (((), v4, v5, v6, (), v7, v8, ()), (es9, ()))) =
    bif decide (v8 < v7) then (
      bif decide (0 ≤ v8) then (
        (nth es9 v8.toNat).bind fun cs10 =>
        (nth es9 v8.toNat).bind fun cs11 =>
        (nth cs11 0).bind fun d12 =>
        (asInt? .i64 d12).bind fun n13 =>
        bif decide (0 ≤ v8) then (
          (nth es9 v8.toNat).bind fun cs14 =>
          (nth es9 v8.toNat).bind fun cs15 =>
          (nth cs15 0).bind fun d16 =>
          (asInt? .i64 d16).bind fun n17 =>
          letIn (IntKind.wrap .i64 (n13 * v4) : Int) fun n18 =>
          letIn (IntKind.wrap .i64 (Int.tdiv n18 256) : Int) fun n19 =>
          letIn (IntKind.wrap .i64 (n17 - n19) : Int) fun n20 =>
          bif decide (0 ≤ v8) then (
            (nth es9 v8.toNat).bind fun cs21 =>
            (nth es9 v8.toNat).bind fun cs22 =>
            (setCells cs22 0 [.v (.int .i64 n20)]).bind fun cs23 =>
            letIn (IntKind.wrap .i64 (n13 * v4) : Int) fun n24 =>
            letIn (IntKind.wrap .i64 (Int.tdiv n24 256) : Int) fun n25 =>
            letIn (IntKind.wrap .i64 (v6 + n25) : Int) fun n26 =>
            letIn (IntKind.wrap .i64 (v8 + 1) : Int) fun n27 =>
            (lvl Try.prog HH (n + 0)).1 ⟨73, 1, false⟩ 0 (loopOf Try.f73 0) (encSt S73s0_0 (((), v4, v5, n26, (), v7, n27, ()), ((upd es9 v8.toNat cs23), ()))))
          else
          none)
        else
        none)
      else
      none)
    else
    some (.exit 0, encSt S73s0_0_e0 (((), v5, v6, ()), (es9, ()))) := by kernel_rfl

theorem fn73s0 (n : Nat) (t1 : Int) (i2 : Int) (es3 : List (List D1)) : (lvl Try.prog HH (n + 1)).2 73 [.s (.one (.fs 0)), .s (.one (.v (.int .i64 t1))), .s (.one (.v (.int .i64 i2)))] [.own 1 true es3] =
    ((lvl Try.prog HH (n + 0)).1 ⟨73, 1, false⟩ 0 (loopOf Try.f73 0) (encSt S73s0_0 (((), t1, i2, 0, (), (((es3.length : Nat) : Int)), 0, ()), (es3, ())))).bind fun p28 =>
    bif sameEx (.exit 0) p28.1 then (decSt S73s0_0_e0 p28.2 fun x29 =>
      bif decide (0 ≤ x29.1.2.1) then (
        (nth x29.2.1 x29.1.2.1.toNat).bind fun cs30 =>
        (nth x29.2.1 x29.1.2.1.toNat).bind fun cs31 =>
        (nth cs31 0).bind fun d32 =>
        (asInt? .i64 d32).bind fun n33 =>
        letIn (IntKind.wrap .i64 (n33 + x29.1.2.2.1) : Int) fun n34 =>
        bif decide (0 ≤ x29.1.2.1) then (
          (nth x29.2.1 x29.1.2.1.toNat).bind fun cs35 =>
          (nth x29.2.1 x29.1.2.1.toNat).bind fun cs36 =>
          (setCells cs36 0 [.v (.int .i64 n34)]).bind fun cs37 =>
          some (.tup [], [.own 1 true (upd x29.2.1 x29.1.2.1.toNat cs37)]))
        else
        none)
      else
      none)
    else
    none := by kernel_rfl

/-! (*armplan/nearest.sides).approach -/
theorem fn57s0 (n : Nat) (t1 : Int) (i2 : Int) (j3 : Int) (c4 : List (List D1)) (c5 : List (List D1)) (c6 : Int) (c7 : Int) (c8 : Int) (c9 : Int) (c10 : Int) (c11 : Int) (es12 : List (List D1)) (es13 : List (List D1)) : (lvl Try.prog HH (n + 1)).2 57 [.s (.one (.ptr 0 0 0)), .s (.one (.v (.int .i64 t1))), .s (.one (.v (.int .i64 i2))), .s (.one (.v (.int .i64 j3)))] [.own 10 false [[.fs 1, .fs 2, .fr 3 c4, .fr 3 c5, .v (.int .i64 c6), .v (.int .i64 c7), .v (.int .i64 c8), .v (.int .i64 c9), .v (.int .i64 c10), .v (.int .i64 c11)]], .own 1 true es12, .own 1 true es13] =
    callT (lvl Try.prog HH (n + 0)).2 73 [.s (.one (.fs 0)), .s (.one (.v (.int .i64 t1))), .s (.one (.v (.int .i64 i2)))] [.own 1 true es12] outs73 mouts73 fun y14 m15 =>
    callT (lvl Try.prog HH (n + 0)).2 73 [.s (.one (.fs 0)), .s (.one (.v (.int .i64 t1))), .s (.one (.v (.int .i64 j3)))] [.own 1 true es13] outs73 mouts73 fun y16 m17 =>
    some (.tup [], [.own 10 false [[.fs 1, .fs 2, .fr 3 c4, .fr 3 c5, .v (.int .i64 c6), .v (.int .i64 c7), .v (.int .i64 c8), .v (.int .i64 c9), .v (.int .i64 c10), .v (.int .i64 c11)]], .own 1 true m15.1, .own 1 true m17.1]) := by kernel_rfl

/-! (*armplan/nearest.search).step -/
theorem fn28s0_w (w : CallF → CallF) (v : LoopF → LoopF) (n : Nat) (c1 : List (List D1)) (c2 : List (List D1)) (c3 : Int) (c4 : Int) (c5 : Int) (c6 : Int) (c7 : Int) (c8 : Int) (es9 : List (List D1)) (es10 : List (List D1)) : (lvlW w v symL Try.prog HH (n + 5)).2 28 [.s (.one (.ptr 0 0 0))] [.own 10 false [[.fs 1, .fs 2, .fr 3 c1, .fr 3 c2, .v (.int .i64 c3), .v (.int .i64 c4), .v (.int .i64 c5), .v (.int .i64 c6), .v (.int .i64 c7), .v (.int .i64 c8)]], .own 1 true es9, .own 1 true es10] =
    callT (w (lvlW w v symL Try.prog HH (n + 4)).2) 50 [.s (.one (.ptr 0 0 0)), .s (.one (.fr 3 c1)), .s (.one (.fr 3 c2))] [.own 10 false [[.fs 1, .fs 2, .fr 3 c1, .fr 3 c2, .v (.int .i64 c3), .v (.int .i64 c4), .v (.int .i64 c5), .v (.int .i64 c6), .v (.int .i64 c7), .v (.int .i64 c8)]], .own 1 true es9, .own 1 true es10] outs50 mouts50 fun y11 m12 =>
    callT (w (lvlW w v symL Try.prog HH (n + 4)).2) 51 [.s (.agg true [.v (.int .i64 y11.1.1), .v (.int .i64 y11.1.2.1), .v (.int .i64 y11.1.2.2.1)])] [] outs51 mouts51 fun y13 m14 =>
    callT (w (lvlW w v symL Try.prog HH (n + 4)).2) 52 [.s (.agg true [.v (.int .i64 y13.1.1), .v (.int .i64 y13.1.2.1), .v (.int .i64 y13.1.2.2.1)]), .s (.agg true [.v (.int .i64 y13.1.1), .v (.int .i64 y13.1.2.1), .v (.int .i64 y13.1.2.2.1)])] [] outs52 mouts52 fun y15 m16 =>
    letIn (IntKind.wrap .i64 (m12.1.2.2.2.2.1 * m12.1.2.2.2.2.1) : Int) fun n17 =>
    bif decide (y15.1 ≤ n17) then (
      some (.tup [.one (.v (.int .i64 2)), .one (.v (.bool true))], [.own 10 false [[.fs 1, .fs 2, .fr 3 m12.1.2.2.1, .fr 3 m12.1.2.2.2.1, .v (.int .i64 m12.1.2.2.2.2.1), .v (.int .i64 m12.1.2.2.2.2.2.1), .v (.int .i64 m12.1.2.2.2.2.2.2.1), .v (.int .i64 m12.1.2.2.2.2.2.2.2.1), .v (.int .i64 m12.1.2.2.2.2.2.2.2.2.1), .v (.int .i64 m12.1.2.2.2.2.2.2.2.2.2.1)]], .own 1 true m12.2.1, .own 1 true m12.2.2.1]))
    else
    letIn (IntKind.wrap .i64 (Int.tdiv y11.1.1 65536) : Int) fun n18 =>
    letIn (IntKind.wrap .i64 (Int.tdiv y11.1.2.1 65536) : Int) fun n19 =>
    letIn (IntKind.wrap .i64 (Int.tdiv y11.1.2.2.1 65536) : Int) fun n20 =>
    callT (w (lvlW w v symL Try.prog HH (n + 4)).2) 53 [.s (.agg true [.v (.int .i64 n18), .v (.int .i64 n19), .v (.int .i64 n20)])] [] outs53 mouts53 fun y21 m22 =>
    bif !y21.2.1 then (
      some (.tup [.one (.v (.int .i64 0)), .one (.v (.bool true))], [.own 10 false [[.fs 1, .fs 2, .fr 3 m12.1.2.2.1, .fr 3 m12.1.2.2.2.1, .v (.int .i64 m12.1.2.2.2.2.1), .v (.int .i64 m12.1.2.2.2.2.2.1), .v (.int .i64 m12.1.2.2.2.2.2.2.1), .v (.int .i64 y21.1.1), .v (.int .i64 y21.1.2.1), .v (.int .i64 y21.1.2.2.1)]], .own 1 true m12.2.1, .own 1 true m12.2.2.1]))
    else
    callT (w (lvlW w v symL Try.prog HH (n + 4)).2) 54 [.s (.agg true [.v (.int .i64 y21.1.1), .v (.int .i64 y21.1.2.1), .v (.int .i64 y21.1.2.2.1)]), .s (.one (.fr 3 m12.1.2.2.1))] [] outs54 mouts54 fun y23 m24 =>
    callT (w (lvlW w v symL Try.prog HH (n + 4)).2) 55 [.s (.agg true [.v (.int .i64 0), .v (.int .i64 0), .v (.int .i64 0)]), .s (.agg true [.v (.int .i64 y21.1.1), .v (.int .i64 y21.1.2.1), .v (.int .i64 y21.1.2.2.1)])] [] outs55 mouts55 fun y25 m26 =>
    callT (w (lvlW w v symL Try.prog HH (n + 4)).2) 54 [.s (.agg true [.v (.int .i64 y25.1.1), .v (.int .i64 y25.1.2.1), .v (.int .i64 y25.1.2.2.1)]), .s (.one (.fr 3 m12.1.2.2.2.1))] [] outs54 mouts54 fun y27 m28 =>
    bif decide (0 ≤ y23.1) then (
      (nth m12.1.2.2.1 y23.1.toNat).bind fun cs29 =>
      bif Nat.beq ((cs29.drop 0).take 3).length 3 then (
        decCts [.int .i64, .int .i64, .int .i64] ((cs29.drop 0).take 3) fun c30 =>
        callT (w (lvlW w v symL Try.prog HH (n + 4)).2) 52 [.s (.agg true [.v (.int .i64 y21.1.1), .v (.int .i64 y21.1.2.1), .v (.int .i64 y21.1.2.2.1)]), .s (.agg true [.v (.int .i64 c30.1), .v (.int .i64 c30.2.1), .v (.int .i64 c30.2.2.1)])] [] outs52 mouts52 fun y31 m32 =>
        bif decide (0 ≤ y27.1) then (
          (nth m12.1.2.2.2.1 y27.1.toNat).bind fun cs33 =>
          bif Nat.beq ((cs33.drop 0).take 3).length 3 then (
            decCts [.int .i64, .int .i64, .int .i64] ((cs33.drop 0).take 3) fun c34 =>
            callT (w (lvlW w v symL Try.prog HH (n + 4)).2) 52 [.s (.agg true [.v (.int .i64 y21.1.1), .v (.int .i64 y21.1.2.1), .v (.int .i64 y21.1.2.2.1)]), .s (.agg true [.v (.int .i64 c34.1), .v (.int .i64 c34.2.1), .v (.int .i64 c34.2.2.1)])] [] outs52 mouts52 fun y35 m36 =>
            letIn (IntKind.wrap .i64 (y31.1 - y35.1) : Int) fun n37 =>
            callT (w (lvlW w v symL Try.prog HH (n + 4)).2) 56 [.s (.agg true [.v (.int .i64 y21.1.1), .v (.int .i64 y21.1.2.1), .v (.int .i64 y21.1.2.2.1)])] [] outs56 mouts56 fun y38 m39 =>
            letIn (IntKind.wrap .i64 (y38.1 * m12.1.2.2.2.2.1) : Int) fun n40 =>
            bif decide (n37 > n40) then (
              some (.tup [.one (.v (.int .i64 1)), .one (.v (.bool true))], [.own 10 false [[.fs 1, .fs 2, .fr 3 m12.1.2.2.1, .fr 3 m12.1.2.2.2.1, .v (.int .i64 m12.1.2.2.2.2.1), .v (.int .i64 m12.1.2.2.2.2.2.1), .v (.int .i64 m12.1.2.2.2.2.2.2.1), .v (.int .i64 y21.1.1), .v (.int .i64 y21.1.2.1), .v (.int .i64 y21.1.2.2.1)]], .own 1 true m12.2.1, .own 1 true m12.2.2.1]))
            else
            bif m12.1.2.2.2.2.2.2.1 == m12.1.2.2.2.2.2.1 then (
              some (.tup [.one (.v (.int .i64 0)), .one (.v (.bool true))], [.own 10 false [[.fs 1, .fs 2, .fr 3 m12.1.2.2.1, .fr 3 m12.1.2.2.2.1, .v (.int .i64 m12.1.2.2.2.2.1), .v (.int .i64 m12.1.2.2.2.2.2.1), .v (.int .i64 m12.1.2.2.2.2.2.2.1), .v (.int .i64 y21.1.1), .v (.int .i64 y21.1.2.1), .v (.int .i64 y21.1.2.2.1)]], .own 1 true m12.2.1, .own 1 true m12.2.2.1]))
            else
            bif decide (0 ≤ y23.1) then (
              (nth m12.1.2.2.1 y23.1.toNat).bind fun cs41 =>
              bif Nat.beq ((cs41.drop 0).take 3).length 3 then (
                decCts [.int .i64, .int .i64, .int .i64] ((cs41.drop 0).take 3) fun c42 =>
                bif decide (0 ≤ y27.1) then (
                  (nth m12.1.2.2.2.1 y27.1.toNat).bind fun cs43 =>
                  bif Nat.beq ((cs43.drop 0).take 3).length 3 then (
                    decCts [.int .i64, .int .i64, .int .i64] ((cs43.drop 0).take 3) fun c44 =>
                    callT (w (lvlW w v symL Try.prog HH (n + 4)).2) 55 [.s (.agg true [.v (.int .i64 c42.1), .v (.int .i64 c42.2.1), .v (.int .i64 c42.2.2.1)]), .s (.agg true [.v (.int .i64 c44.1), .v (.int .i64 c44.2.1), .v (.int .i64 c44.2.2.1)])] [] outs55 mouts55 fun y45 m46 =>
                    callT (w (lvlW w v symL Try.prog HH (n + 4)).2) 55 [.s (.agg true [.v (.int .i64 n18), .v (.int .i64 n19), .v (.int .i64 n20)]), .s (.agg true [.v (.int .i64 y45.1.1), .v (.int .i64 y45.1.2.1), .v (.int .i64 y45.1.2.2.1)])] [] outs55 mouts55 fun y47 m48 =>
                    callT (w (lvlW w v symL Try.prog HH (n + 4)).2) 52 [.s (.agg true [.v (.int .i64 n18), .v (.int .i64 n19), .v (.int .i64 n20)]), .s (.agg true [.v (.int .i64 y47.1.1), .v (.int .i64 y47.1.2.1), .v (.int .i64 y47.1.2.2.1)])] [] outs52 mouts52 fun y49 m50 =>
                    callT (w (lvlW w v symL Try.prog HH (n + 4)).2) 52 [.s (.agg true [.v (.int .i64 y47.1.1), .v (.int .i64 y47.1.2.1), .v (.int .i64 y47.1.2.2.1)]), .s (.agg true [.v (.int .i64 y47.1.1), .v (.int .i64 y47.1.2.1), .v (.int .i64 y47.1.2.2.1)])] [] outs52 mouts52 fun y51 m52 =>
                    letIn (IntKind.wrap .i64 (Int.tdiv y51.1 256) : Int) fun n53 =>
                    letIn (if n53 > 1 then n53 else 1 : Int) fun n54 =>
                    bif n54 == 0 then (
                      none)
                    else
                    letIn (IntKind.wrap .i64 (Int.tdiv y49.1 n54) : Int) fun n55 =>
                    letIn (if n55 < 256 then n55 else 256 : Int) fun n56 =>
                    bif decide (y49.1 ≤ 0) then (
                      some (.tup [.one (.v (.int .i64 0)), .one (.v (.bool true))], [.own 10 false [[.fs 1, .fs 2, .fr 3 m12.1.2.2.1, .fr 3 m12.1.2.2.2.1, .v (.int .i64 m12.1.2.2.2.2.1), .v (.int .i64 m12.1.2.2.2.2.2.1), .v (.int .i64 m12.1.2.2.2.2.2.2.1), .v (.int .i64 y21.1.1), .v (.int .i64 y21.1.2.1), .v (.int .i64 y21.1.2.2.1)]], .own 1 true m12.2.1, .own 1 true m12.2.2.1]))
                    else
                    bif n56 == 0 then (
                      some (.tup [.one (.v (.int .i64 0)), .one (.v (.bool true))], [.own 10 false [[.fs 1, .fs 2, .fr 3 m12.1.2.2.1, .fr 3 m12.1.2.2.2.1, .v (.int .i64 m12.1.2.2.2.2.1), .v (.int .i64 m12.1.2.2.2.2.2.1), .v (.int .i64 m12.1.2.2.2.2.2.2.1), .v (.int .i64 y21.1.1), .v (.int .i64 y21.1.2.1), .v (.int .i64 y21.1.2.2.1)]], .own 1 true m12.2.1, .own 1 true m12.2.2.1]))
                    else
                    callT (w (lvlW w v symL Try.prog HH (n + 4)).2) 57 [.s (.one (.ptr 0 0 0)), .s (.one (.v (.int .i64 n56))), .s (.one (.v (.int .i64 y23.1))), .s (.one (.v (.int .i64 y27.1)))] [.own 10 false [[.fs 1, .fs 2, .fr 3 m12.1.2.2.1, .fr 3 m12.1.2.2.2.1, .v (.int .i64 m12.1.2.2.2.2.1), .v (.int .i64 m12.1.2.2.2.2.2.1), .v (.int .i64 m12.1.2.2.2.2.2.2.1), .v (.int .i64 y21.1.1), .v (.int .i64 y21.1.2.1), .v (.int .i64 y21.1.2.2.1)]], .own 1 true m12.2.1, .own 1 true m12.2.2.1] outs57 mouts57 fun y57 m58 =>
                    letIn (IntKind.wrap .i64 (m58.1.2.2.2.2.2.2.1 + 1) : Int) fun n59 =>
                    some (.tup [.one (.v (.int .i64 0)), .one (.v (.bool false))], [.own 10 false [[.fs 1, .fs 2, .fr 3 m58.1.2.2.1, .fr 3 m58.1.2.2.2.1, .v (.int .i64 m58.1.2.2.2.2.1), .v (.int .i64 m58.1.2.2.2.2.2.1), .v (.int .i64 n59), .v (.int .i64 m58.1.2.2.2.2.2.2.2.1), .v (.int .i64 m58.1.2.2.2.2.2.2.2.2.1), .v (.int .i64 m58.1.2.2.2.2.2.2.2.2.2.1)]], .own 1 true m58.2.1, .own 1 true m58.2.2.1]))
                  else
                  none)
                else
                none)
              else
              none)
            else
            none)
          else
          none)
        else
        none)
      else
      none)
    else
    none := by kernel_rfl
theorem fn28s0 (n : Nat) (c1 : List (List D1)) (c2 : List (List D1)) (c3 : Int) (c4 : Int) (c5 : Int) (c6 : Int) (c7 : Int) (c8 : Int) (es9 : List (List D1)) (es10 : List (List D1)) : (lvl Try.prog HH (n + 5)).2 28 [.s (.one (.ptr 0 0 0))] [.own 10 false [[.fs 1, .fs 2, .fr 3 c1, .fr 3 c2, .v (.int .i64 c3), .v (.int .i64 c4), .v (.int .i64 c5), .v (.int .i64 c6), .v (.int .i64 c7), .v (.int .i64 c8)]], .own 1 true es9, .own 1 true es10] =
    callT (lvl Try.prog HH (n + 4)).2 50 [.s (.one (.ptr 0 0 0)), .s (.one (.fr 3 c1)), .s (.one (.fr 3 c2))] [.own 10 false [[.fs 1, .fs 2, .fr 3 c1, .fr 3 c2, .v (.int .i64 c3), .v (.int .i64 c4), .v (.int .i64 c5), .v (.int .i64 c6), .v (.int .i64 c7), .v (.int .i64 c8)]], .own 1 true es9, .own 1 true es10] outs50 mouts50 fun y11 m12 =>
    callT (lvl Try.prog HH (n + 4)).2 51 [.s (.agg true [.v (.int .i64 y11.1.1), .v (.int .i64 y11.1.2.1), .v (.int .i64 y11.1.2.2.1)])] [] outs51 mouts51 fun y13 m14 =>
    callT (lvl Try.prog HH (n + 4)).2 52 [.s (.agg true [.v (.int .i64 y13.1.1), .v (.int .i64 y13.1.2.1), .v (.int .i64 y13.1.2.2.1)]), .s (.agg true [.v (.int .i64 y13.1.1), .v (.int .i64 y13.1.2.1), .v (.int .i64 y13.1.2.2.1)])] [] outs52 mouts52 fun y15 m16 =>
    letIn (IntKind.wrap .i64 (m12.1.2.2.2.2.1 * m12.1.2.2.2.2.1) : Int) fun n17 =>
    bif decide (y15.1 ≤ n17) then (
      some (.tup [.one (.v (.int .i64 2)), .one (.v (.bool true))], [.own 10 false [[.fs 1, .fs 2, .fr 3 m12.1.2.2.1, .fr 3 m12.1.2.2.2.1, .v (.int .i64 m12.1.2.2.2.2.1), .v (.int .i64 m12.1.2.2.2.2.2.1), .v (.int .i64 m12.1.2.2.2.2.2.2.1), .v (.int .i64 m12.1.2.2.2.2.2.2.2.1), .v (.int .i64 m12.1.2.2.2.2.2.2.2.2.1), .v (.int .i64 m12.1.2.2.2.2.2.2.2.2.2.1)]], .own 1 true m12.2.1, .own 1 true m12.2.2.1]))
    else
    letIn (IntKind.wrap .i64 (Int.tdiv y11.1.1 65536) : Int) fun n18 =>
    letIn (IntKind.wrap .i64 (Int.tdiv y11.1.2.1 65536) : Int) fun n19 =>
    letIn (IntKind.wrap .i64 (Int.tdiv y11.1.2.2.1 65536) : Int) fun n20 =>
    callT (lvl Try.prog HH (n + 4)).2 53 [.s (.agg true [.v (.int .i64 n18), .v (.int .i64 n19), .v (.int .i64 n20)])] [] outs53 mouts53 fun y21 m22 =>
    bif !y21.2.1 then (
      some (.tup [.one (.v (.int .i64 0)), .one (.v (.bool true))], [.own 10 false [[.fs 1, .fs 2, .fr 3 m12.1.2.2.1, .fr 3 m12.1.2.2.2.1, .v (.int .i64 m12.1.2.2.2.2.1), .v (.int .i64 m12.1.2.2.2.2.2.1), .v (.int .i64 m12.1.2.2.2.2.2.2.1), .v (.int .i64 y21.1.1), .v (.int .i64 y21.1.2.1), .v (.int .i64 y21.1.2.2.1)]], .own 1 true m12.2.1, .own 1 true m12.2.2.1]))
    else
    callT (lvl Try.prog HH (n + 4)).2 54 [.s (.agg true [.v (.int .i64 y21.1.1), .v (.int .i64 y21.1.2.1), .v (.int .i64 y21.1.2.2.1)]), .s (.one (.fr 3 m12.1.2.2.1))] [] outs54 mouts54 fun y23 m24 =>
    callT (lvl Try.prog HH (n + 4)).2 55 [.s (.agg true [.v (.int .i64 0), .v (.int .i64 0), .v (.int .i64 0)]), .s (.agg true [.v (.int .i64 y21.1.1), .v (.int .i64 y21.1.2.1), .v (.int .i64 y21.1.2.2.1)])] [] outs55 mouts55 fun y25 m26 =>
    callT (lvl Try.prog HH (n + 4)).2 54 [.s (.agg true [.v (.int .i64 y25.1.1), .v (.int .i64 y25.1.2.1), .v (.int .i64 y25.1.2.2.1)]), .s (.one (.fr 3 m12.1.2.2.2.1))] [] outs54 mouts54 fun y27 m28 =>
    bif decide (0 ≤ y23.1) then (
      (nth m12.1.2.2.1 y23.1.toNat).bind fun cs29 =>
      bif Nat.beq ((cs29.drop 0).take 3).length 3 then (
        decCts [.int .i64, .int .i64, .int .i64] ((cs29.drop 0).take 3) fun c30 =>
        callT (lvl Try.prog HH (n + 4)).2 52 [.s (.agg true [.v (.int .i64 y21.1.1), .v (.int .i64 y21.1.2.1), .v (.int .i64 y21.1.2.2.1)]), .s (.agg true [.v (.int .i64 c30.1), .v (.int .i64 c30.2.1), .v (.int .i64 c30.2.2.1)])] [] outs52 mouts52 fun y31 m32 =>
        bif decide (0 ≤ y27.1) then (
          (nth m12.1.2.2.2.1 y27.1.toNat).bind fun cs33 =>
          bif Nat.beq ((cs33.drop 0).take 3).length 3 then (
            decCts [.int .i64, .int .i64, .int .i64] ((cs33.drop 0).take 3) fun c34 =>
            callT (lvl Try.prog HH (n + 4)).2 52 [.s (.agg true [.v (.int .i64 y21.1.1), .v (.int .i64 y21.1.2.1), .v (.int .i64 y21.1.2.2.1)]), .s (.agg true [.v (.int .i64 c34.1), .v (.int .i64 c34.2.1), .v (.int .i64 c34.2.2.1)])] [] outs52 mouts52 fun y35 m36 =>
            letIn (IntKind.wrap .i64 (y31.1 - y35.1) : Int) fun n37 =>
            callT (lvl Try.prog HH (n + 4)).2 56 [.s (.agg true [.v (.int .i64 y21.1.1), .v (.int .i64 y21.1.2.1), .v (.int .i64 y21.1.2.2.1)])] [] outs56 mouts56 fun y38 m39 =>
            letIn (IntKind.wrap .i64 (y38.1 * m12.1.2.2.2.2.1) : Int) fun n40 =>
            bif decide (n37 > n40) then (
              some (.tup [.one (.v (.int .i64 1)), .one (.v (.bool true))], [.own 10 false [[.fs 1, .fs 2, .fr 3 m12.1.2.2.1, .fr 3 m12.1.2.2.2.1, .v (.int .i64 m12.1.2.2.2.2.1), .v (.int .i64 m12.1.2.2.2.2.2.1), .v (.int .i64 m12.1.2.2.2.2.2.2.1), .v (.int .i64 y21.1.1), .v (.int .i64 y21.1.2.1), .v (.int .i64 y21.1.2.2.1)]], .own 1 true m12.2.1, .own 1 true m12.2.2.1]))
            else
            bif m12.1.2.2.2.2.2.2.1 == m12.1.2.2.2.2.2.1 then (
              some (.tup [.one (.v (.int .i64 0)), .one (.v (.bool true))], [.own 10 false [[.fs 1, .fs 2, .fr 3 m12.1.2.2.1, .fr 3 m12.1.2.2.2.1, .v (.int .i64 m12.1.2.2.2.2.1), .v (.int .i64 m12.1.2.2.2.2.2.1), .v (.int .i64 m12.1.2.2.2.2.2.2.1), .v (.int .i64 y21.1.1), .v (.int .i64 y21.1.2.1), .v (.int .i64 y21.1.2.2.1)]], .own 1 true m12.2.1, .own 1 true m12.2.2.1]))
            else
            bif decide (0 ≤ y23.1) then (
              (nth m12.1.2.2.1 y23.1.toNat).bind fun cs41 =>
              bif Nat.beq ((cs41.drop 0).take 3).length 3 then (
                decCts [.int .i64, .int .i64, .int .i64] ((cs41.drop 0).take 3) fun c42 =>
                bif decide (0 ≤ y27.1) then (
                  (nth m12.1.2.2.2.1 y27.1.toNat).bind fun cs43 =>
                  bif Nat.beq ((cs43.drop 0).take 3).length 3 then (
                    decCts [.int .i64, .int .i64, .int .i64] ((cs43.drop 0).take 3) fun c44 =>
                    callT (lvl Try.prog HH (n + 4)).2 55 [.s (.agg true [.v (.int .i64 c42.1), .v (.int .i64 c42.2.1), .v (.int .i64 c42.2.2.1)]), .s (.agg true [.v (.int .i64 c44.1), .v (.int .i64 c44.2.1), .v (.int .i64 c44.2.2.1)])] [] outs55 mouts55 fun y45 m46 =>
                    callT (lvl Try.prog HH (n + 4)).2 55 [.s (.agg true [.v (.int .i64 n18), .v (.int .i64 n19), .v (.int .i64 n20)]), .s (.agg true [.v (.int .i64 y45.1.1), .v (.int .i64 y45.1.2.1), .v (.int .i64 y45.1.2.2.1)])] [] outs55 mouts55 fun y47 m48 =>
                    callT (lvl Try.prog HH (n + 4)).2 52 [.s (.agg true [.v (.int .i64 n18), .v (.int .i64 n19), .v (.int .i64 n20)]), .s (.agg true [.v (.int .i64 y47.1.1), .v (.int .i64 y47.1.2.1), .v (.int .i64 y47.1.2.2.1)])] [] outs52 mouts52 fun y49 m50 =>
                    callT (lvl Try.prog HH (n + 4)).2 52 [.s (.agg true [.v (.int .i64 y47.1.1), .v (.int .i64 y47.1.2.1), .v (.int .i64 y47.1.2.2.1)]), .s (.agg true [.v (.int .i64 y47.1.1), .v (.int .i64 y47.1.2.1), .v (.int .i64 y47.1.2.2.1)])] [] outs52 mouts52 fun y51 m52 =>
                    letIn (IntKind.wrap .i64 (Int.tdiv y51.1 256) : Int) fun n53 =>
                    letIn (if n53 > 1 then n53 else 1 : Int) fun n54 =>
                    bif n54 == 0 then (
                      none)
                    else
                    letIn (IntKind.wrap .i64 (Int.tdiv y49.1 n54) : Int) fun n55 =>
                    letIn (if n55 < 256 then n55 else 256 : Int) fun n56 =>
                    bif decide (y49.1 ≤ 0) then (
                      some (.tup [.one (.v (.int .i64 0)), .one (.v (.bool true))], [.own 10 false [[.fs 1, .fs 2, .fr 3 m12.1.2.2.1, .fr 3 m12.1.2.2.2.1, .v (.int .i64 m12.1.2.2.2.2.1), .v (.int .i64 m12.1.2.2.2.2.2.1), .v (.int .i64 m12.1.2.2.2.2.2.2.1), .v (.int .i64 y21.1.1), .v (.int .i64 y21.1.2.1), .v (.int .i64 y21.1.2.2.1)]], .own 1 true m12.2.1, .own 1 true m12.2.2.1]))
                    else
                    bif n56 == 0 then (
                      some (.tup [.one (.v (.int .i64 0)), .one (.v (.bool true))], [.own 10 false [[.fs 1, .fs 2, .fr 3 m12.1.2.2.1, .fr 3 m12.1.2.2.2.1, .v (.int .i64 m12.1.2.2.2.2.1), .v (.int .i64 m12.1.2.2.2.2.2.1), .v (.int .i64 m12.1.2.2.2.2.2.2.1), .v (.int .i64 y21.1.1), .v (.int .i64 y21.1.2.1), .v (.int .i64 y21.1.2.2.1)]], .own 1 true m12.2.1, .own 1 true m12.2.2.1]))
                    else
                    callT (lvl Try.prog HH (n + 4)).2 57 [.s (.one (.ptr 0 0 0)), .s (.one (.v (.int .i64 n56))), .s (.one (.v (.int .i64 y23.1))), .s (.one (.v (.int .i64 y27.1)))] [.own 10 false [[.fs 1, .fs 2, .fr 3 m12.1.2.2.1, .fr 3 m12.1.2.2.2.1, .v (.int .i64 m12.1.2.2.2.2.1), .v (.int .i64 m12.1.2.2.2.2.2.1), .v (.int .i64 m12.1.2.2.2.2.2.2.1), .v (.int .i64 y21.1.1), .v (.int .i64 y21.1.2.1), .v (.int .i64 y21.1.2.2.1)]], .own 1 true m12.2.1, .own 1 true m12.2.2.1] outs57 mouts57 fun y57 m58 =>
                    letIn (IntKind.wrap .i64 (m58.1.2.2.2.2.2.2.1 + 1) : Int) fun n59 =>
                    some (.tup [.one (.v (.int .i64 0)), .one (.v (.bool false))], [.own 10 false [[.fs 1, .fs 2, .fr 3 m58.1.2.2.1, .fr 3 m58.1.2.2.2.1, .v (.int .i64 m58.1.2.2.2.2.1), .v (.int .i64 m58.1.2.2.2.2.2.1), .v (.int .i64 n59), .v (.int .i64 m58.1.2.2.2.2.2.2.2.1), .v (.int .i64 m58.1.2.2.2.2.2.2.2.2.1), .v (.int .i64 m58.1.2.2.2.2.2.2.2.2.2.1)]], .own 1 true m58.2.1, .own 1 true m58.2.2.1]))
                  else
                  none)
                else
                none)
              else
              none)
            else
            none)
          else
          none)
        else
        none)
      else
      none)
    else
    none := by
  have h := fn28s0_w (fun x => x) (fun x => x) n c1 c2 c3 c4 c5 c6 c7 c8 es9 es10
  rw [lvlW_id] at h
  exact h

end Go.Proofs.Ytcldcnolhmmegaa.Am
