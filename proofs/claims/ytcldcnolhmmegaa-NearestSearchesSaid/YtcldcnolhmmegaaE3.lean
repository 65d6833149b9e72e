/- PRINTED by amprint.py: what the abstract machine answers, function by function. -/
import Derived.Test.YtcldcnolhmmegaaH
import Derived.KernelRfl
set_option linter.unusedVariables false
set_option maxRecDepth 100000
namespace Go.Proofs.Ytcldcnolhmmegaa.Am
open Go Go.Proofs

/-! armplan/armplanref10.Norm -/
theorem fn19 (n : Nat) (n1 : Int) (n2 : Int) (n3 : Int) : (lvl Try.prog HH (n + 1)).2 19 [.s (.agg true [.v (.int .i64 n1), .v (.int .i64 n2), .v (.int .i64 n3)])] [] =
    callT (lvl Try.prog HH (n + 0)).2 30 [.s (.agg true [.v (.int .i64 n1), .v (.int .i64 n2), .v (.int .i64 n3)])] [] outs30 mouts30 fun y4 m5 =>
    bif !y4.1 then (
      some (.s (.one (.v (.int .i64 0))), []))
    else
    letIn (IntKind.wrap .i64 (n1 * n1) : Int) fun n6 =>
    letIn (IntKind.wrap .i64 (n2 * n2) : Int) fun n7 =>
    letIn (IntKind.wrap .i64 (n6 + n7) : Int) fun n8 =>
    letIn (IntKind.wrap .i64 (n3 * n3) : Int) fun n9 =>
    letIn (IntKind.wrap .i64 (n8 + n9) : Int) fun n10 =>
    callT (lvl Try.prog HH (n + 0)).2 34 [.s (.one (.v (.int .i64 n10)))] [] outs34 mouts34 fun y11 m12 =>
    some (.s (.one (.v (.int .i64 y11.1))), []) := by kernel_rfl

/-! armplan/armplanref14.Moved -/
theorem loop47_0 (n : Nat) (v4 : Int) (v5 : Int) (v6 : Int) (v7 : Int) (es8 : List (List D1)) : (lvl Try.prog HH (n + 1)).1 ⟨47, 0, true⟩ 0 (loopOf Try.f47 0) (encSt S47_0 ((v4, v5, (), v6, v7, ()), (es8, ()))) =
    bif decide (v7 < (((es8.length : Nat) : Int))) then (
      bif decide (0 ≤ v7) then (
        (nth es8 v7.toNat).bind fun cs9 =>
        (nth es8 v7.toNat).bind fun cs10 =>
        (nth cs10 0).bind fun d11 =>
        (asInt? .i64 d11).bind fun n12 =>
        letIn (IntKind.wrap .i64 (n12 * v4) : Int) fun n13 =>
        letIn (IntKind.wrap .i64 (Int.tdiv n13 256) : Int) fun n14 =>
        bif decide (0 ≤ v7) then (
          (nth es8 v7.toNat).bind fun cs15 =>
          (nth es8 v7.toNat).bind fun cs16 =>
          (nth cs16 0).bind fun d17 =>
          (asInt? .i64 d17).bind fun n18 =>
          letIn (IntKind.wrap .i64 (n18 - n14) : Int) fun n19 =>
          bif decide (0 ≤ v7) then (
            (nth es8 v7.toNat).bind fun cs20 =>
            (nth es8 v7.toNat).bind fun cs21 =>
            (setCells cs21 0 [.v (.int .i64 n19)]).bind fun cs22 =>
            letIn (IntKind.wrap .i64 (v6 + n14) : Int) fun n23 =>
            letIn (IntKind.wrap .i64 (v7 + 1) : Int) fun n24 =>
            (lvl Try.prog HH (n + 0)).1 ⟨47, 0, true⟩ 0 (loopOf Try.f47 0) (encSt S47_0 ((v4, v5, (), n23, n24, ()), ((upd es8 v7.toNat cs22), ()))))
          else
          none)
        else
        none)
      else
      none)
    else
    some (.exit 0, encSt S47_0_e0 ((v5, (), v6, ()), (es8, ()))) := by kernel_rfl

theorem fn47 (n : Nat) (weights1 : List (List D1)) (t2 : Int) (to3 : Int) : (lvl Try.prog HH (n + 1)).2 47 [.s (.one (.fr 1 weights1)), .s (.one (.v (.int .i64 t2))), .s (.one (.v (.int .i64 to3)))] [] =
    bif decide ((0 + weights1.length) * 8 ≤ 140737488355328) then (
      ((lvl Try.prog HH (n + 0)).1 ⟨47, 0, true⟩ 0 (loopOf Try.f47 0) (encSt S47_0 ((t2, to3, (), 0, 0, ()), (([] ++ weights1), ())))).bind fun p25 =>
      bif sameEx (.exit 0) p25.1 then (decSt S47_0_e0 p25.2 fun x26 =>
        bif decide (0 ≤ x26.1.1) then (
          (nth x26.2.1 x26.1.1.toNat).bind fun cs27 =>
          (nth x26.2.1 x26.1.1.toNat).bind fun cs28 =>
          (nth cs28 0).bind fun d29 =>
          (asInt? .i64 d29).bind fun n30 =>
          letIn (IntKind.wrap .i64 (n30 + x26.1.2.2.1) : Int) fun n31 =>
          bif decide (0 ≤ x26.1.1) then (
            (nth x26.2.1 x26.1.1.toNat).bind fun cs32 =>
            (nth x26.2.1 x26.1.1.toNat).bind fun cs33 =>
            (setCells cs33 0 [.v (.int .i64 n31)]).bind fun cs34 =>
            some (.s (.one (.fs 0)), [.own 1 true (upd x26.2.1 x26.1.1.toNat cs34)]))
          else
          none)
        else
        none)
      else
      none)
    else
    none := by kernel_rfl

/-! armplan/armplanref14.Search -/
theorem loop25_0_w (w : CallF → CallF) (v : LoopF → LoopF) (n : Nat) (v23 : List (List D1)) (v24 : List (List D1)) (v25 : Int) (v26 : Int) (c27 : Int) (c28 : Int) (c29 : Int) (c30 : Int) (c31 : D1) (c32 : D1) (c33 : Int) (c34 : Int) (c35 : Int) (c36 : Int) (c37 : Int) (c38 : Int) (es39 : List (List D1)) (es40 : List (List D1)) : (lvlW w v symL Try.prog HH (n + 1)).1 ⟨25, 0, true⟩ 0 (loopOf Try.f25 0) (encSt S25_0 ((v23, v24, v25, v26, (), (), ()), ((c27, c28, c29, c30, c31, c32, c33, ()), (c34, c35, c36, c37, (), (), c38, ()), es39, es40, ()))) =
    callT (w (lvlW w v symL Try.prog HH (n + 0)).2) 42 [.s (.one (.fr 3 v23)), .s (.one (.fr 1 es39))] [] outs42 mouts42 fun y41 m42 =>
    callT (w (lvlW w v symL Try.prog HH (n + 0)).2) 42 [.s (.one (.fr 3 v24)), .s (.one (.fr 1 es40))] [] outs42 mouts42 fun y43 m44 =>
    callT (w (lvlW w v symL Try.prog HH (n + 0)).2) 41 [.s (.agg true [.v (.int .i64 y41.1.1), .v (.int .i64 y41.1.2.1), .v (.int .i64 y41.1.2.2.1)]), .s (.agg true [.v (.int .i64 y43.1.1), .v (.int .i64 y43.1.2.1), .v (.int .i64 y43.1.2.2.1)])] [] outs41 mouts41 fun y45 m46 =>
    callT (w (lvlW w v symL Try.prog HH (n + 0)).2) 43 [.s (.agg true [.v (.int .i64 y45.1.1), .v (.int .i64 y45.1.2.1), .v (.int .i64 y45.1.2.2.1)]), .s (.one (.v (.int .i64 v25)))] [] outs43 mouts43 fun y47 m48 =>
    bif y47.1 then (
      some (.ret, encSt S25_0_r (((), ()), ((2, c35, c36, c37, (), (), c38, ()), es39, es40, ()))))
    else
    letIn (IntKind.wrap .i64 (Int.tdiv y45.1.1 65536) : Int) fun n49 =>
    letIn (IntKind.wrap .i64 (Int.tdiv y45.1.2.1 65536) : Int) fun n50 =>
    letIn (IntKind.wrap .i64 (Int.tdiv y45.1.2.2.1 65536) : Int) fun n51 =>
    callT (w (lvlW w v symL Try.prog HH (n + 0)).2) 44 [.s (.agg true [.v (.int .i64 n49), .v (.int .i64 n50), .v (.int .i64 n51)])] [] outs44 mouts44 fun y52 m53 =>
    bif !y52.2.1 then (
      some (.ret, encSt S25_0_r (((), ()), ((c34, y52.1.1, y52.1.2.1, y52.1.2.2.1, (), (), c38, ()), es39, es40, ()))))
    else
    callT (w (lvlW w v symL Try.prog HH (n + 0)).2) 45 [.s (.agg true [.v (.int .i64 y52.1.1), .v (.int .i64 y52.1.2.1), .v (.int .i64 y52.1.2.2.1)]), .s (.one (.fr 3 v23)), .s (.one (.v (.int .i64 1)))] [] outs45 mouts45 fun y54 m55 =>
    callT (w (lvlW w v symL Try.prog HH (n + 0)).2) 45 [.s (.agg true [.v (.int .i64 y52.1.1), .v (.int .i64 y52.1.2.1), .v (.int .i64 y52.1.2.2.1)]), .s (.one (.fr 3 v24)), .s (.one (.v (.int .i64 (-1))))] [] outs45 mouts45 fun y56 m57 =>
    bif decide (0 ≤ y54.1) then (
      (nth v23 y54.1.toNat).bind fun cs58 =>
      bif Nat.beq ((cs58.drop 0).take 3).length 3 then (
        decCts [.int .i64, .int .i64, .int .i64] ((cs58.drop 0).take 3) fun c59 =>
        callT (w (lvlW w v symL Try.prog HH (n + 0)).2) 46 [.s (.agg true [.v (.int .i64 y52.1.1), .v (.int .i64 y52.1.2.1), .v (.int .i64 y52.1.2.2.1)]), .s (.agg true [.v (.int .i64 c59.1), .v (.int .i64 c59.2.1), .v (.int .i64 c59.2.2.1)])] [] outs46 mouts46 fun y60 m61 =>
        bif decide (0 ≤ y56.1) then (
          (nth v24 y56.1.toNat).bind fun cs62 =>
          bif Nat.beq ((cs62.drop 0).take 3).length 3 then (
            decCts [.int .i64, .int .i64, .int .i64] ((cs62.drop 0).take 3) fun c63 =>
            callT (w (lvlW w v symL Try.prog HH (n + 0)).2) 46 [.s (.agg true [.v (.int .i64 y52.1.1), .v (.int .i64 y52.1.2.1), .v (.int .i64 y52.1.2.2.1)]), .s (.agg true [.v (.int .i64 c63.1), .v (.int .i64 c63.2.1), .v (.int .i64 c63.2.2.1)])] [] outs46 mouts46 fun y64 m65 =>
            letIn (IntKind.wrap .i64 (y60.1 - y64.1) : Int) fun n66 =>
            callT (w (lvlW w v symL Try.prog HH (n + 0)).2) 19 [.s (.agg true [.v (.int .i64 y52.1.1), .v (.int .i64 y52.1.2.1), .v (.int .i64 y52.1.2.2.1)])] [] outs19 mouts19 fun y67 m68 =>
            letIn (IntKind.wrap .i64 (y67.1 * v25) : Int) fun n69 =>
            bif decide (n66 > n69) then (
              some (.ret, encSt S25_0_r (((), ()), ((1, y52.1.1, y52.1.2.1, y52.1.2.2.1, (), (), c38, ()), es39, es40, ()))))
            else
            bif decide (0 ≤ y54.1) then (
              (nth v23 y54.1.toNat).bind fun cs70 =>
              bif Nat.beq ((cs70.drop 0).take 3).length 3 then (
                decCts [.int .i64, .int .i64, .int .i64] ((cs70.drop 0).take 3) fun c71 =>
                bif decide (0 ≤ y56.1) then (
                  (nth v24 y56.1.toNat).bind fun cs72 =>
                  bif Nat.beq ((cs72.drop 0).take 3).length 3 then (
                    decCts [.int .i64, .int .i64, .int .i64] ((cs72.drop 0).take 3) fun c73 =>
                    callT (w (lvlW w v symL Try.prog HH (n + 0)).2) 41 [.s (.agg true [.v (.int .i64 c71.1), .v (.int .i64 c71.2.1), .v (.int .i64 c71.2.2.1)]), .s (.agg true [.v (.int .i64 c73.1), .v (.int .i64 c73.2.1), .v (.int .i64 c73.2.2.1)])] [] outs41 mouts41 fun y74 m75 =>
                    callT (w (lvlW w v symL Try.prog HH (n + 0)).2) 41 [.s (.agg true [.v (.int .i64 n49), .v (.int .i64 n50), .v (.int .i64 n51)]), .s (.agg true [.v (.int .i64 y74.1.1), .v (.int .i64 y74.1.2.1), .v (.int .i64 y74.1.2.2.1)])] [] outs41 mouts41 fun y76 m77 =>
                    callT (w (lvlW w v symL Try.prog HH (n + 0)).2) 46 [.s (.agg true [.v (.int .i64 n49), .v (.int .i64 n50), .v (.int .i64 n51)]), .s (.agg true [.v (.int .i64 y76.1.1), .v (.int .i64 y76.1.2.1), .v (.int .i64 y76.1.2.2.1)])] [] outs46 mouts46 fun y78 m79 =>
                    callT (w (lvlW w v symL Try.prog HH (n + 0)).2) 46 [.s (.agg true [.v (.int .i64 y76.1.1), .v (.int .i64 y76.1.2.1), .v (.int .i64 y76.1.2.2.1)]), .s (.agg true [.v (.int .i64 y76.1.1), .v (.int .i64 y76.1.2.1), .v (.int .i64 y76.1.2.2.1)])] [] outs46 mouts46 fun y80 m81 =>
                    bif decide (c38 ≥ v26) then (
                      some (.ret, encSt S25_0_r (((), ()), ((c34, y52.1.1, y52.1.2.1, y52.1.2.2.1, (), (), c38, ()), es39, es40, ()))))
                    else
                    bif decide (y78.1 ≤ 0) then (
                      some (.ret, encSt S25_0_r (((), ()), ((c34, y52.1.1, y52.1.2.1, y52.1.2.2.1, (), (), c38, ()), es39, es40, ()))))
                    else
                    letIn (IntKind.wrap .i64 (Int.tdiv y80.1 256) : Int) fun n82 =>
                    letIn (if n82 > 1 then n82 else 1 : Int) fun n83 =>
                    bif n83 == 0 then (
                      none)
                    else
                    letIn (IntKind.wrap .i64 (Int.tdiv y78.1 n83) : Int) fun n84 =>
                    letIn (if n84 < 256 then n84 else 256 : Int) fun n85 =>
                    bif n85 == 0 then (
                      some (.ret, encSt S25_0_r (((), ()), ((c34, y52.1.1, y52.1.2.1, y52.1.2.2.1, (), (), c38, ()), es39, es40, ()))))
                    else
                    callT (w (lvlW w v symL Try.prog HH (n + 0)).2) 47 [.s (.one (.fr 1 es39)), .s (.one (.v (.int .i64 n85))), .s (.one (.v (.int .i64 y54.1)))] [] outs47 mouts47 fun y86 m87 =>
                    callT (w (lvlW w v symL Try.prog HH (n + 0)).2) 47 [.s (.one (.fr 1 es40)), .s (.one (.v (.int .i64 n85))), .s (.one (.v (.int .i64 y56.1)))] [] outs47 mouts47 fun y88 m89 =>
                    letIn (IntKind.wrap .i64 (c38 + 1) : Int) fun n90 =>
                    v (lvlW w v symL Try.prog HH (n + 0)).1 ⟨25, 0, true⟩ 0 (loopOf Try.f25 0) (encSt S25_0 ((v23, v24, v25, v26, (), (), ()), ((c27, c28, c29, c30, (c31), (c32), c33, ()), (c34, y52.1.1, y52.1.2.1, y52.1.2.2.1, (), (), n90, ()), m87.1, m89.1, ()))))
                  else
                  none)
                else
                none)
              else
              none)
            else
            none)
          else
          none)
        else
        none)
      else
      none)
    else
    none := by kernel_rfl
theorem loop25_0 (n : Nat) (v23 : List (List D1)) (v24 : List (List D1)) (v25 : Int) (v26 : Int) (c27 : Int) (c28 : Int) (c29 : Int) (c30 : Int) (c31 : D1) (c32 : D1) (c33 : Int) (c34 : Int) (c35 : Int) (c36 : Int) (c37 : Int) (c38 : Int) (es39 : List (List D1)) (es40 : List (List D1)) : (lvl Try.prog HH (n + 1)).1 ⟨25, 0, true⟩ 0 (loopOf Try.f25 0) (encSt S25_0 ((v23, v24, v25, v26, (), (), ()), ((c27, c28, c29, c30, c31, c32, c33, ()), (c34, c35, c36, c37, (), (), c38, ()), es39, es40, ()))) =
    callT (lvl Try.prog HH (n + 0)).2 42 [.s (.one (.fr 3 v23)), .s (.one (.fr 1 es39))] [] outs42 mouts42 fun y41 m42 =>
    callT (lvl Try.prog HH (n + 0)).2 42 [.s (.one (.fr 3 v24)), .s (.one (.fr 1 es40))] [] outs42 mouts42 fun y43 m44 =>
    callT (lvl Try.prog HH (n + 0)).2 41 [.s (.agg true [.v (.int .i64 y41.1.1), .v (.int .i64 y41.1.2.1), .v (.int .i64 y41.1.2.2.1)]), .s (.agg true [.v (.int .i64 y43.1.1), .v (.int .i64 y43.1.2.1), .v (.int .i64 y43.1.2.2.1)])] [] outs41 mouts41 fun y45 m46 =>
    callT (lvl Try.prog HH (n + 0)).2 43 [.s (.agg true [.v (.int .i64 y45.1.1), .v (.int .i64 y45.1.2.1), .v (.int .i64 y45.1.2.2.1)]), .s (.one (.v (.int .i64 v25)))] [] outs43 mouts43 fun y47 m48 =>
    bif y47.1 then (
      some (.ret, encSt S25_0_r (((), ()), ((2, c35, c36, c37, (), (), c38, ()), es39, es40, ()))))
    else
    letIn (IntKind.wrap .i64 (Int.tdiv y45.1.1 65536) : Int) fun n49 =>
    letIn (IntKind.wrap .i64 (Int.tdiv y45.1.2.1 65536) : Int) fun n50 =>
    letIn (IntKind.wrap .i64 (Int.tdiv y45.1.2.2.1 65536) : Int) fun n51 =>
    callT (lvl Try.prog HH (n + 0)).2 44 [.s (.agg true [.v (.int .i64 n49), .v (.int .i64 n50), .v (.int .i64 n51)])] [] outs44 mouts44 fun y52 m53 =>
    bif !y52.2.1 then (
      some (.ret, encSt S25_0_r (((), ()), ((c34, y52.1.1, y52.1.2.1, y52.1.2.2.1, (), (), c38, ()), es39, es40, ()))))
    else
    callT (lvl Try.prog HH (n + 0)).2 45 [.s (.agg true [.v (.int .i64 y52.1.1), .v (.int .i64 y52.1.2.1), .v (.int .i64 y52.1.2.2.1)]), .s (.one (.fr 3 v23)), .s (.one (.v (.int .i64 1)))] [] outs45 mouts45 fun y54 m55 =>
    callT (lvl Try.prog HH (n + 0)).2 45 [.s (.agg true [.v (.int .i64 y52.1.1), .v (.int .i64 y52.1.2.1), .v (.int .i64 y52.1.2.2.1)]), .s (.one (.fr 3 v24)), .s (.one (.v (.int .i64 (-1))))] [] outs45 mouts45 fun y56 m57 =>
    bif decide (0 ≤ y54.1) then (
      (nth v23 y54.1.toNat).bind fun cs58 =>
      bif Nat.beq ((cs58.drop 0).take 3).length 3 then (
        decCts [.int .i64, .int .i64, .int .i64] ((cs58.drop 0).take 3) fun c59 =>
        callT (lvl Try.prog HH (n + 0)).2 46 [.s (.agg true [.v (.int .i64 y52.1.1), .v (.int .i64 y52.1.2.1), .v (.int .i64 y52.1.2.2.1)]), .s (.agg true [.v (.int .i64 c59.1), .v (.int .i64 c59.2.1), .v (.int .i64 c59.2.2.1)])] [] outs46 mouts46 fun y60 m61 =>
        bif decide (0 ≤ y56.1) then (
          (nth v24 y56.1.toNat).bind fun cs62 =>
          bif Nat.beq ((cs62.drop 0).take 3).length 3 then (
            decCts [.int .i64, .int .i64, .int .i64] ((cs62.drop 0).take 3) fun c63 =>
            callT (lvl Try.prog HH (n + 0)).2 46 [.s (.agg true [.v (.int .i64 y52.1.1), .v (.int .i64 y52.1.2.1), .v (.int .i64 y52.1.2.2.1)]), .s (.agg true [.v (.int .i64 c63.1), .v (.int .i64 c63.2.1), .v (.int .i64 c63.2.2.1)])] [] outs46 mouts46 fun y64 m65 =>
            letIn (IntKind.wrap .i64 (y60.1 - y64.1) : Int) fun n66 =>
            callT (lvl Try.prog HH (n + 0)).2 19 [.s (.agg true [.v (.int .i64 y52.1.1), .v (.int .i64 y52.1.2.1), .v (.int .i64 y52.1.2.2.1)])] [] outs19 mouts19 fun y67 m68 =>
            letIn (IntKind.wrap .i64 (y67.1 * v25) : Int) fun n69 =>
            bif decide (n66 > n69) then (
              some (.ret, encSt S25_0_r (((), ()), ((1, y52.1.1, y52.1.2.1, y52.1.2.2.1, (), (), c38, ()), es39, es40, ()))))
            else
            bif decide (0 ≤ y54.1) then (
              (nth v23 y54.1.toNat).bind fun cs70 =>
              bif Nat.beq ((cs70.drop 0).take 3).length 3 then (
                decCts [.int .i64, .int .i64, .int .i64] ((cs70.drop 0).take 3) fun c71 =>
                bif decide (0 ≤ y56.1) then (
                  (nth v24 y56.1.toNat).bind fun cs72 =>
                  bif Nat.beq ((cs72.drop 0).take 3).length 3 then (
                    decCts [.int .i64, .int .i64, .int .i64] ((cs72.drop 0).take 3) fun c73 =>
                    callT (lvl Try.prog HH (n + 0)).2 41 [.s (.agg true [.v (.int .i64 c71.1), .v (.int .i64 c71.2.1), .v (.int .i64 c71.2.2.1)]), .s (.agg true [.v (.int .i64 c73.1), .v (.int .i64 c73.2.1), .v (.int .i64 c73.2.2.1)])] [] outs41 mouts41 fun y74 m75 =>
                    callT (lvl Try.prog HH (n + 0)).2 41 [.s (.agg true [.v (.int .i64 n49), .v (.int .i64 n50), .v (.int .i64 n51)]), .s (.agg true [.v (.int .i64 y74.1.1), .v (.int .i64 y74.1.2.1), .v (.int .i64 y74.1.2.2.1)])] [] outs41 mouts41 fun y76 m77 =>
                    callT (lvl Try.prog HH (n + 0)).2 46 [.s (.agg true [.v (.int .i64 n49), .v (.int .i64 n50), .v (.int .i64 n51)]), .s (.agg true [.v (.int .i64 y76.1.1), .v (.int .i64 y76.1.2.1), .v (.int .i64 y76.1.2.2.1)])] [] outs46 mouts46 fun y78 m79 =>
                    callT (lvl Try.prog HH (n + 0)).2 46 [.s (.agg true [.v (.int .i64 y76.1.1), .v (.int .i64 y76.1.2.1), .v (.int .i64 y76.1.2.2.1)]), .s (.agg true [.v (.int .i64 y76.1.1), .v (.int .i64 y76.1.2.1), .v (.int .i64 y76.1.2.2.1)])] [] outs46 mouts46 fun y80 m81 =>
                    bif decide (c38 ≥ v26) then (
                      some (.ret, encSt S25_0_r (((), ()), ((c34, y52.1.1, y52.1.2.1, y52.1.2.2.1, (), (), c38, ()), es39, es40, ()))))
                    else
                    bif decide (y78.1 ≤ 0) then (
                      some (.ret, encSt S25_0_r (((), ()), ((c34, y52.1.1, y52.1.2.1, y52.1.2.2.1, (), (), c38, ()), es39, es40, ()))))
                    else
                    letIn (IntKind.wrap .i64 (Int.tdiv y80.1 256) : Int) fun n82 =>
                    letIn (if n82 > 1 then n82 else 1 : Int) fun n83 =>
                    bif n83 == 0 then (
                      none)
                    else
                    letIn (IntKind.wrap .i64 (Int.tdiv y78.1 n83) : Int) fun n84 =>
                    letIn (if n84 < 256 then n84 else 256 : Int) fun n85 =>
                    bif n85 == 0 then (
                      some (.ret, encSt S25_0_r (((), ()), ((c34, y52.1.1, y52.1.2.1, y52.1.2.2.1, (), (), c38, ()), es39, es40, ()))))
                    else
                    callT (lvl Try.prog HH (n + 0)).2 47 [.s (.one (.fr 1 es39)), .s (.one (.v (.int .i64 n85))), .s (.one (.v (.int .i64 y54.1)))] [] outs47 mouts47 fun y86 m87 =>
                    callT (lvl Try.prog HH (n + 0)).2 47 [.s (.one (.fr 1 es40)), .s (.one (.v (.int .i64 n85))), .s (.one (.v (.int .i64 y56.1)))] [] outs47 mouts47 fun y88 m89 =>
                    letIn (IntKind.wrap .i64 (c38 + 1) : Int) fun n90 =>
                    (lvl Try.prog HH (n + 0)).1 ⟨25, 0, true⟩ 0 (loopOf Try.f25 0) (encSt S25_0 ((v23, v24, v25, v26, (), (), ()), ((c27, c28, c29, c30, (c31), (c32), c33, ()), (c34, y52.1.1, y52.1.2.1, y52.1.2.2.1, (), (), n90, ()), m87.1, m89.1, ()))))
                  else
                  none)
                else
                none)
              else
              none)
            else
            none)
          else
          none)
        else
        none)
      else
      none)
    else
    none := by
  have h := loop25_0_w (fun x => x) (fun x => x) n v23 v24 v25 v26 c27 c28 c29 c30 c31 c32 c33 c34 c35 c36 c37 c38 es39 es40
  rw [lvlW_id] at h
  exact h

theorem fn25 (n : Nat) (a1 : List (List D1)) (b2 : List (List D1)) (rho3 : Int) (steps4 : Int) : (lvl Try.prog HH (n + 1)).2 25 [.s (.one (.fr 3 a1)), .s (.one (.fr 3 b2)), .s (.one (.v (.int .i64 rho3))), .s (.one (.v (.int .i64 steps4)))] [] =
    callT (lvl Try.prog HH (n + 0)).2 40 [.s (.one (.fr 3 a1))] [] outs40 mouts40 fun y5 m6 =>
    bif !y5.1 then (
      some (.s (.agg true [.v (.int .i64 0), .v (.int .i64 0), .v (.int .i64 0), .v (.int .i64 0), .fr 1 [], .fr 1 [], .v (.int .i64 0)]), []))
    else
    callT (lvl Try.prog HH (n + 0)).2 40 [.s (.one (.fr 3 b2))] [] outs40 mouts40 fun y7 m8 =>
    bif !y7.1 then (
      some (.s (.agg true [.v (.int .i64 0), .v (.int .i64 0), .v (.int .i64 0), .v (.int .i64 0), .fr 1 [], .fr 1 [], .v (.int .i64 0)]), []))
    else
    bif decide (rho3 < 0) then (
      some (.s (.agg true [.v (.int .i64 0), .v (.int .i64 0), .v (.int .i64 0), .v (.int .i64 0), .fr 1 [], .fr 1 [], .v (.int .i64 0)]), []))
    else
    bif decide (rho3 > 2097152) then (
      some (.s (.agg true [.v (.int .i64 0), .v (.int .i64 0), .v (.int .i64 0), .v (.int .i64 0), .fr 1 [], .fr 1 [], .v (.int .i64 0)]), []))
    else
    bif decide (steps4 < 0) then (
      some (.s (.agg true [.v (.int .i64 0), .v (.int .i64 0), .v (.int .i64 0), .v (.int .i64 0), .fr 1 [], .fr 1 [], .v (.int .i64 0)]), []))
    else
    bif decide (steps4 > 64) then (
      some (.s (.agg true [.v (.int .i64 0), .v (.int .i64 0), .v (.int .i64 0), .v (.int .i64 0), .fr 1 [], .fr 1 [], .v (.int .i64 0)]), []))
    else
    bif (decide (0 ≤ (((a1.length : Nat) : Int)))) && (decide ((((a1.length : Nat) : Int)) ≤ (((a1.length : Nat) : Int)))) && (decide ((((a1.length : Nat) : Int)) ≤ (((a1.length : Nat) : Int)))) && decide ((((a1.length : Nat) : Int)).toNat * 8 ≤ 140737488355328) then (
      bif (decide (0 ≤ (((b2.length : Nat) : Int)))) && (decide ((((b2.length : Nat) : Int)) ≤ (((b2.length : Nat) : Int)))) && (decide ((((b2.length : Nat) : Int)) ≤ (((b2.length : Nat) : Int)))) && decide ((((b2.length : Nat) : Int)).toNat * 8 ≤ 140737488355328) then (
        (nth ((List.replicate ((((a1.length : Nat) : Int)).toNat) [.v (.int .i64 0)]) : List (List D1)) 0).bind fun cs9 =>
        (nth ((List.replicate ((((a1.length : Nat) : Int)).toNat) [.v (.int .i64 0)]) : List (List D1)) 0).bind fun cs10 =>
        (setCells cs10 0 [.v (.int .i64 65536)]).bind fun cs11 =>
        (nth ((List.replicate ((((b2.length : Nat) : Int)).toNat) [.v (.int .i64 0)]) : List (List D1)) 0).bind fun cs12 =>
        (nth ((List.replicate ((((b2.length : Nat) : Int)).toNat) [.v (.int .i64 0)]) : List (List D1)) 0).bind fun cs13 =>
        (setCells cs13 0 [.v (.int .i64 65536)]).bind fun cs14 =>
        ((lvl Try.prog HH (n + 0)).1 ⟨25, 0, true⟩ 0 (loopOf Try.f25 0) (encSt S25_0 ((a1, b2, rho3, steps4, (), (), ()), ((0, 0, 0, 0, (.v (.slice none 0 0)), (.v (.slice none 0 0)), 0, ()), (0, 0, 0, 0, (), (), 0, ()), (upd (List.replicate ((((a1.length : Nat) : Int)).toNat) [.v (.int .i64 0)]) 0 cs11), (upd (List.replicate ((((b2.length : Nat) : Int)).toNat) [.v (.int .i64 0)]) 0 cs14), ())))).bind fun p91 =>
        bif sameEx (.ret) p91.1 then (decSt S25_0_r p91.2 fun x92 =>
          some (.s (.agg true [.v (.int .i64 x92.2.1.1), .v (.int .i64 x92.2.1.2.1), .v (.int .i64 x92.2.1.2.2.1), .v (.int .i64 x92.2.1.2.2.2.1), .fr 1 x92.2.2.1, .fr 1 x92.2.2.2.1, .v (.int .i64 x92.2.1.2.2.2.2.2.2.1)]), []))
        else
        none)
      else
      none)
    else
    none := by kernel_rfl

/-! armplan/armplanmake.Same[int64] -/
theorem loop36_0 (n : Nat) (v3 : List (List D1)) (v4 : List (List D1)) (v5 : Int) : (lvl Try.prog HH (n + 1)).1 ⟨36, 0, true⟩ 0 (loopOf Try.f36 0) (encSt S36_0 ((v3, v4, v5, ()), ())) =
    bif decide (v5 < (((v3.length : Nat) : Int))) then (
      bif decide (0 ≤ v5) then (
        (nth v3 v5.toNat).bind fun cs6 =>
        (nth cs6 0).bind fun d7 =>
        (asInt? .i64 d7).bind fun n8 =>
        bif decide (0 ≤ v5) then (
          (nth v4 v5.toNat).bind fun cs9 =>
          (nth cs9 0).bind fun d10 =>
          (asInt? .i64 d10).bind fun n11 =>
          bif n8 != n11 then (
            some (.ret, encSt S36_0_r ((false, ()), ())))
          else
          letIn (IntKind.wrap .i64 (v5 + 1) : Int) fun n12 =>
          (lvl Try.prog HH (n + 0)).1 ⟨36, 0, true⟩ 0 (loopOf Try.f36 0) (encSt S36_0 ((v3, v4, n12, ()), ())))
        else
        none)
      else
      none)
    else
    some (.exit 0, encSt S36_0_e0 ((), ())) := by kernel_rfl

theorem fn36 (n : Nat) (a1 : List (List D1)) (b2 : List (List D1)) : (lvl Try.prog HH (n + 1)).2 36 [.s (.one (.fr 1 a1)), .s (.one (.fr 1 b2))] [] =
    bif (((a1.length : Nat) : Int)) != (((b2.length : Nat) : Int)) then (
      some (.s (.one (.v (.bool false))), []))
    else
    ((lvl Try.prog HH (n + 0)).1 ⟨36, 0, true⟩ 0 (loopOf Try.f36 0) (encSt S36_0 ((a1, b2, 0, ()), ()))).bind fun p13 =>
    bif sameEx (.ret) p13.1 then (decSt S36_0_r p13.2 fun x14 =>
      some (.s (.one (.v (.bool x14.1.1))), []))
    else
    bif sameEx (.exit 0) p13.1 then (decSt S36_0_e0 p13.2 fun x15 =>
      some (.s (.one (.v (.bool true))), []))
    else
    none := by kernel_rfl

/-! armplan/armplanmake.SameNearest -/
theorem fn21 (n : Nat) (a1 : Int) (a2 : Int) (a3 : Int) (a4 : Int) (a5 : List (List D1)) (a6 : List (List D1)) (a7 : Int) (b8 : Int) (b9 : Int) (b10 : Int) (b11 : Int) (b12 : List (List D1)) (b13 : List (List D1)) (b14 : Int) : (lvl Try.prog HH (n + 1)).2 21 [.s (.agg true [.v (.int .i64 a1), .v (.int .i64 a2), .v (.int .i64 a3), .v (.int .i64 a4), .fr 1 a5, .fr 1 a6, .v (.int .i64 a7)]), .s (.agg true [.v (.int .i64 b8), .v (.int .i64 b9), .v (.int .i64 b10), .v (.int .i64 b11), .fr 1 b12, .fr 1 b13, .v (.int .i64 b14)])] [] =
    bif a1 == b8 then (
      letIn ((a2 == b9) && ((a3 == b10) && ((a4 == b11) && true)) : Bool) fun b15 =>
      bif b15 then (
        bif a7 == b14 then (
          callT (lvl Try.prog HH (n + 0)).2 36 [.s (.one (.fr 1 a5)), .s (.one (.fr 1 b12))] [] outs36 mouts36 fun y16 m17 =>
          bif y16.1 then (
            callT (lvl Try.prog HH (n + 0)).2 36 [.s (.one (.fr 1 a6)), .s (.one (.fr 1 b13))] [] outs36 mouts36 fun y18 m19 =>
            some (.s (.one (.v (.bool y18.1))), []))
          else
          some (.s (.one (.v (.bool false))), []))
        else
        some (.s (.one (.v (.bool false))), []))
      else
      some (.s (.one (.v (.bool false))), []))
    else
    some (.s (.one (.v (.bool false))), []) := by kernel_rfl

/-! armplan/armplanlaw14.searches -/
theorem fn13 (n : Nat) (a1 : List (List D1)) (b2 : List (List D1)) (rho3 : Int) (steps4 : Int) : (lvl Try.prog HH (n + 1)).2 13 [.s (.one (.fr 3 a1)), .s (.one (.fr 3 b2)), .s (.one (.v (.int .i64 rho3))), .s (.one (.v (.int .i64 steps4)))] [] =
    callT (lvl Try.prog HH (n + 0)).2 14 [.s (.one (.fr 3 a1)), .s (.one (.fr 3 b2)), .s (.one (.v (.int .i64 rho3))), .s (.one (.v (.int .i64 steps4)))] [] outs14 mouts14 fun y5 m6 =>
    callT (lvl Try.prog HH (n + 0)).2 25 [.s (.one (.fr 3 a1)), .s (.one (.fr 3 b2)), .s (.one (.v (.int .i64 rho3))), .s (.one (.v (.int .i64 steps4)))] [] outs25 mouts25 fun y7 m8 =>
    callT (lvl Try.prog HH (n + 0)).2 21 [.s (.agg true [.v (.int .i64 y5.1.1), .v (.int .i64 y5.1.2.1), .v (.int .i64 y5.1.2.2.1), .v (.int .i64 y5.1.2.2.2.1), .fr 1 y5.1.2.2.2.2.1, .fr 1 y5.1.2.2.2.2.2.1, .v (.int .i64 y5.1.2.2.2.2.2.2.1)]), .s (.agg true [.v (.int .i64 y7.1.1), .v (.int .i64 y7.1.2.1), .v (.int .i64 y7.1.2.2.1), .v (.int .i64 y7.1.2.2.2.1), .fr 1 y7.1.2.2.2.2.1, .fr 1 y7.1.2.2.2.2.2.1, .v (.int .i64 y7.1.2.2.2.2.2.2.1)])] [] outs21 mouts21 fun y9 m10 =>
    some (.s (.one (.v (.bool y9.1))), []) := by kernel_rfl

/-! armplan/armplanlaw14.NearestSearches -/
theorem fn3_w (w : CallF → CallF) (v : LoopF → LoopF) (n : Nat) (a1 : List (List D1)) (b2 : List (List D1)) (rho3 : Int) (steps4 : Int) (l5 : List (List D1)) (m6 : List (List D1)) : (lvlW w v symL Try.prog HH (n + 1)).2 3 [.s (.one (.fr 3 a1)), .s (.one (.fr 3 b2)), .s (.one (.v (.int .i64 rho3))), .s (.one (.v (.int .i64 steps4))), .s (.one (.fr 1 l5)), .s (.one (.fr 1 m6))] [] =
    callT (w (lvlW w v symL Try.prog HH (n + 0)).2) 10 [.s (.one (.fr 1 l5)), .s (.one (.fr 1 m6)), .s (.one (.v (.int .i64 rho3)))] [] outs10 mouts10 fun y7 m8 =>
    callT (w (lvlW w v symL Try.prog HH (n + 0)).2) 11 [.s (.one (.v (.int .i64 steps4))), .s (.one (.v (.int .i64 67)))] [] outs11 mouts11 fun y9 m10 =>
    letIn (IntKind.wrap .i64 (y9.1 - 1) : Int) fun n11 =>
    callT (w (lvlW w v symL Try.prog HH (n + 0)).2) 12 [] [] outs12 mouts12 fun y12 m13 =>
    bif y12.1 then (
      callT (w (lvlW w v symL Try.prog HH (n + 0)).2) 13 [.s (.one (.fr 3 a1)), .s (.one (.fr 3 b2)), .s (.one (.v (.int .i64 rho3))), .s (.one (.v (.int .i64 steps4)))] [] outs13 mouts13 fun y14 m15 =>
      bif y14.1 then (
        callT (w (lvlW w v symL Try.prog HH (n + 0)).2) 13 [.s (.one (.fr 3 y7.1)), .s (.one (.fr 3 y7.2.1)), .s (.one (.v (.int .i64 y7.2.2.1))), .s (.one (.v (.int .i64 n11)))] [] outs13 mouts13 fun y16 m17 =>
        bif y16.1 then (
          callT (w (lvlW w v symL Try.prog HH (n + 0)).2) 13 [.s (.one (.fr 3 y7.1)), .s (.one (.fr 3 y7.2.1)), .s (.one (.v (.int .i64 y7.2.2.1))), .s (.one (.v (.int .i64 64)))] [] outs13 mouts13 fun y18 m19 =>
          bif y18.1 then (
            callT (w (lvlW w v symL Try.prog HH (n + 0)).2) 13 [.s (.one (.fr 3 y7.1)), .s (.one (.fr 3 b2)), .s (.one (.v (.int .i64 y7.2.2.1))), .s (.one (.v (.int .i64 n11)))] [] outs13 mouts13 fun y20 m21 =>
            bif y20.1 then (
              callT (w (lvlW w v symL Try.prog HH (n + 0)).2) 13 [.s (.one (.fr 3 y7.1)), .s (.one (.fr 3 y7.2.1)), .s (.one (.v (.int .i64 rho3))), .s (.one (.v (.int .i64 n11)))] [] outs13 mouts13 fun y22 m23 =>
              some (.s (.one (.v (.bool y22.1))), []))
            else
            some (.s (.one (.v (.bool false))), []))
          else
          some (.s (.one (.v (.bool false))), []))
        else
        some (.s (.one (.v (.bool false))), []))
      else
      some (.s (.one (.v (.bool false))), []))
    else
    some (.s (.one (.v (.bool false))), []) := by kernel_rfl
theorem fn3 (n : Nat) (a1 : List (List D1)) (b2 : List (List D1)) (rho3 : Int) (steps4 : Int) (l5 : List (List D1)) (m6 : List (List D1)) : (lvl Try.prog HH (n + 1)).2 3 [.s (.one (.fr 3 a1)), .s (.one (.fr 3 b2)), .s (.one (.v (.int .i64 rho3))), .s (.one (.v (.int .i64 steps4))), .s (.one (.fr 1 l5)), .s (.one (.fr 1 m6))] [] =
    callT (lvl Try.prog HH (n + 0)).2 10 [.s (.one (.fr 1 l5)), .s (.one (.fr 1 m6)), .s (.one (.v (.int .i64 rho3)))] [] outs10 mouts10 fun y7 m8 =>
    callT (lvl Try.prog HH (n + 0)).2 11 [.s (.one (.v (.int .i64 steps4))), .s (.one (.v (.int .i64 67)))] [] outs11 mouts11 fun y9 m10 =>
    letIn (IntKind.wrap .i64 (y9.1 - 1) : Int) fun n11 =>
    callT (lvl Try.prog HH (n + 0)).2 12 [] [] outs12 mouts12 fun y12 m13 =>
    bif y12.1 then (
      callT (lvl Try.prog HH (n + 0)).2 13 [.s (.one (.fr 3 a1)), .s (.one (.fr 3 b2)), .s (.one (.v (.int .i64 rho3))), .s (.one (.v (.int .i64 steps4)))] [] outs13 mouts13 fun y14 m15 =>
      bif y14.1 then (
        callT (lvl Try.prog HH (n + 0)).2 13 [.s (.one (.fr 3 y7.1)), .s (.one (.fr 3 y7.2.1)), .s (.one (.v (.int .i64 y7.2.2.1))), .s (.one (.v (.int .i64 n11)))] [] outs13 mouts13 fun y16 m17 =>
        bif y16.1 then (
          callT (lvl Try.prog HH (n + 0)).2 13 [.s (.one (.fr 3 y7.1)), .s (.one (.fr 3 y7.2.1)), .s (.one (.v (.int .i64 y7.2.2.1))), .s (.one (.v (.int .i64 64)))] [] outs13 mouts13 fun y18 m19 =>
          bif y18.1 then (
            callT (lvl Try.prog HH (n + 0)).2 13 [.s (.one (.fr 3 y7.1)), .s (.one (.fr 3 b2)), .s (.one (.v (.int .i64 y7.2.2.1))), .s (.one (.v (.int .i64 n11)))] [] outs13 mouts13 fun y20 m21 =>
            bif y20.1 then (
              callT (lvl Try.prog HH (n + 0)).2 13 [.s (.one (.fr 3 y7.1)), .s (.one (.fr 3 y7.2.1)), .s (.one (.v (.int .i64 rho3))), .s (.one (.v (.int .i64 n11)))] [] outs13 mouts13 fun y22 m23 =>
              some (.s (.one (.v (.bool y22.1))), []))
            else
            some (.s (.one (.v (.bool false))), []))
          else
          some (.s (.one (.v (.bool false))), []))
        else
        some (.s (.one (.v (.bool false))), []))
      else
      some (.s (.one (.v (.bool false))), []))
    else
    some (.s (.one (.v (.bool false))), []) := by
  have h := fn3_w (fun x => x) (fun x => x) n a1 b2 rho3 steps4 l5 m6
  rw [lvlW_id] at h
  exact h

end Go.Proofs.Ytcldcnolhmmegaa.Am
