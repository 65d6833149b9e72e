/- PRINTED by amprint.py: what the abstract machine answers, function by function. -/
import Derived.Test.YtanjfmogmlgphaaH
import Derived.KernelRfl
set_option linter.unusedVariables false
set_option maxRecDepth 100000
namespace Go.Proofs.Ytanjfmogmlgphaa.Am
open Go Go.Proofs

/-! armplan/plane.Margin -/
theorem fn16 (n : Nat) (n1 : Int) (n2 : Int) (n3 : Int) (a4 : List (List D1)) (ra5 : Int) (b6 : List (List D1)) (rb7 : Int) : (lvl Try.prog HH (n + 1)).2 16 [.s (.agg true [.v (.int .i64 n1), .v (.int .i64 n2), .v (.int .i64 n3)]), .s (.one (.fr 6 a4)), .s (.one (.v (.int .i64 ra5))), .s (.one (.fr 6 b6)), .s (.one (.v (.int .i64 rb7)))] [] =
    callT (lvl Try.prog HH (n + 0)).2 34 [.s (.agg true [.fr 6 a4, .v (.int .i64 ra5), .fr 6 b6, .v (.int .i64 rb7)]), .s (.agg true [.v (.int .i64 n1), .v (.int .i64 n2), .v (.int .i64 n3)])] [] outs34 mouts34 fun y8 m9 =>
    some (.tup [.one (.v (.int .i64 y8.1)), .one (.v (.bool y8.2.1))], []) := by kernel_rfl

/-! armplan/plane.Separates -/
theorem fn25 (n : Nat) (n1 : Int) (n2 : Int) (n3 : Int) (a4 : List (List D1)) (ra5 : Int) (b6 : List (List D1)) (rb7 : Int) : (lvl Try.prog HH (n + 1)).2 25 [.s (.agg true [.v (.int .i64 n1), .v (.int .i64 n2), .v (.int .i64 n3)]), .s (.one (.fr 6 a4)), .s (.one (.v (.int .i64 ra5))), .s (.one (.fr 6 b6)), .s (.one (.v (.int .i64 rb7)))] [] =
    callT (lvl Try.prog HH (n + 0)).2 16 [.s (.agg true [.v (.int .i64 n1), .v (.int .i64 n2), .v (.int .i64 n3)]), .s (.one (.fr 6 a4)), .s (.one (.v (.int .i64 ra5))), .s (.one (.fr 6 b6)), .s (.one (.v (.int .i64 rb7)))] [] outs16 mouts16 fun y8 m9 =>
    bif y8.2.1 then (
      some (.s (.one (.v (.bool (decide (y8.1 > 0))))), []))
    else
    some (.s (.one (.v (.bool false))), []) := by kernel_rfl

/-! armplan/armplanlaw15.awake -/
theorem fn13 (n : Nat)  : (lvl Try.prog HH (n + 1)).2 13 [] [] =
    callT (lvl Try.prog HH (n + 0)).2 16 [.s (.agg true [.v (.int .i64 1), .v (.int .i64 0), .v (.int .i64 0)]), .s (.one (.fr 6 [[.v (.int .i64 10), .v (.int .i64 12), .v (.int .i64 0), .v (.int .i64 0), .v (.int .i64 0), .v (.int .i64 0)]])), .s (.one (.v (.int .i64 2))), .s (.one (.fr 6 [[.v (.int .i64 3), .v (.int .i64 5), .v (.int .i64 0), .v (.int .i64 0), .v (.int .i64 0), .v (.int .i64 0)]])), .s (.one (.v (.int .i64 2)))] [] outs16 mouts16 fun y1 m2 =>
    bif y1.2.1 then (
      bif y1.1 == 1 then (
        callT (lvl Try.prog HH (n + 0)).2 25 [.s (.agg true [.v (.int .i64 1), .v (.int .i64 0), .v (.int .i64 0)]), .s (.one (.fr 6 [[.v (.int .i64 10), .v (.int .i64 12), .v (.int .i64 0), .v (.int .i64 0), .v (.int .i64 0), .v (.int .i64 0)]])), .s (.one (.v (.int .i64 2))), .s (.one (.fr 6 [[.v (.int .i64 3), .v (.int .i64 5), .v (.int .i64 0), .v (.int .i64 0), .v (.int .i64 0), .v (.int .i64 0)]])), .s (.one (.v (.int .i64 2)))] [] outs25 mouts25 fun y3 m4 =>
        bif y3.1 then (
          callT (lvl Try.prog HH (n + 0)).2 25 [.s (.agg true [.v (.int .i64 1), .v (.int .i64 0), .v (.int .i64 0)]), .s (.one (.fr 6 [[.v (.int .i64 10), .v (.int .i64 12), .v (.int .i64 0), .v (.int .i64 0), .v (.int .i64 0), .v (.int .i64 0)]])), .s (.one (.v (.int .i64 3))), .s (.one (.fr 6 [[.v (.int .i64 3), .v (.int .i64 5), .v (.int .i64 0), .v (.int .i64 0), .v (.int .i64 0), .v (.int .i64 0)]])), .s (.one (.v (.int .i64 2)))] [] outs25 mouts25 fun y5 m6 =>
          some (.s (.one (.v (.bool (!y5.1)))), []))
        else
        some (.s (.one (.v (.bool false))), []))
      else
      some (.s (.one (.v (.bool false))), []))
    else
    some (.s (.one (.v (.bool false))), []) := by kernel_rfl

/-! armplan/armplanlaw15.PlaneMoves -/
theorem loop6_0 (n : Nat) (v22 : Int) (v23 : Int) (v24 : List (List D1)) (v25 : List (List D1)) (v26 : Int) (c27 : Int) (c28 : Int) (c29 : Int) (c30 : Int) (c31 : Int) (c32 : Int) (c33 : Int) (c34 : Int) (c35 : Int) (es36 : List (List D1)) (es37 : List (List D1)) : (lvl Try.prog HH (n + 1)).1 ⟨6, 0, true⟩ 0 (loopOf Try.f6 0) (encSt S6_0 ((v22, v23, v24, v25, (), (), (), (), v26, ()), ((c27, c28, c29, ()), (c30, c31, c32, c33, c34, c35, ()), es36, es37, ()))) =
    bif decide (v26 < (((v24.length : Nat) : Int))) then (
      bif decide (0 ≤ v26) then (
        (nth v24 v26.toNat).bind fun cs38 =>
        bif Nat.beq ((cs38.drop 0).take 6).length 6 then (
          decCts [.int .i64, .int .i64, .int .i64, .int .i64, .int .i64, .int .i64] ((cs38.drop 0).take 6) fun c39 =>
          callT (lvl Try.prog HH (n + 0)).2 19 [.s (.agg true [.v (.int .i64 c39.1), .v (.int .i64 c39.2.1), .v (.int .i64 c39.2.2.1), .v (.int .i64 c39.2.2.2.1), .v (.int .i64 c39.2.2.2.2.1), .v (.int .i64 c39.2.2.2.2.2.1)]), .s (.agg true [.v (.int .i64 c30), .v (.int .i64 c31), .v (.int .i64 c32), .v (.int .i64 c33), .v (.int .i64 c34), .v (.int .i64 c35)])] [] outs19 mouts19 fun y40 m41 =>
          bif decide ((es36.length + 1) * 48 ≤ 140737488355328) then (
            letIn (IntKind.wrap .i64 (v26 + 1) : Int) fun n42 =>
            (lvl Try.prog HH (n + 0)).1 ⟨6, 0, true⟩ 0 (loopOf Try.f6 0) (encSt S6_0 ((v22, v23, v24, v25, (), (), (), (), n42, ()), ((c27, c28, c29, ()), (c30, c31, c32, c33, c34, c35, ()), (es36 ++ ([[.v (.int .i64 y40.1.1), .v (.int .i64 y40.1.2.1), .v (.int .i64 y40.1.2.2.1), .v (.int .i64 y40.1.2.2.2.1), .v (.int .i64 y40.1.2.2.2.2.1), .v (.int .i64 y40.1.2.2.2.2.2.1)]] : List (List D1))), es37, ()))))
          else
          none)
        else
        none)
      else
      none)
    else
    some (.exit 0, encSt S6_0_e0 ((v22, v23, v24, v25, (), (), (), (), ()), ((c27, c28, c29, ()), (c30, c31, c32, c33, c34, c35, ()), es36, es37, ()))) := by kernel_rfl

theorem loop6_2 (n : Nat) (v45 : Int) (v46 : Int) (v47 : List (List D1)) (v48 : List (List D1)) (v49 : Int) (c50 : Int) (c51 : Int) (c52 : Int) (c53 : Int) (c54 : Int) (c55 : Int) (c56 : Int) (c57 : Int) (c58 : Int) (es59 : List (List D1)) (es60 : List (List D1)) : (lvl Try.prog HH (n + 1)).1 ⟨6, 0, true⟩ 2 (loopOf Try.f6 2) (encSt S6_2 ((v45, v46, v47, v48, (), (), (), (), v49, ()), ((c50, c51, c52, ()), (c53, c54, c55, c56, c57, c58, ()), es59, es60, ()))) =
    bif decide (v49 < (((v48.length : Nat) : Int))) then (
      bif decide (0 ≤ v49) then (
        (nth v48 v49.toNat).bind fun cs61 =>
        bif Nat.beq ((cs61.drop 0).take 6).length 6 then (
          decCts [.int .i64, .int .i64, .int .i64, .int .i64, .int .i64, .int .i64] ((cs61.drop 0).take 6) fun c62 =>
          callT (lvl Try.prog HH (n + 0)).2 19 [.s (.agg true [.v (.int .i64 c62.1), .v (.int .i64 c62.2.1), .v (.int .i64 c62.2.2.1), .v (.int .i64 c62.2.2.2.1), .v (.int .i64 c62.2.2.2.2.1), .v (.int .i64 c62.2.2.2.2.2.1)]), .s (.agg true [.v (.int .i64 c53), .v (.int .i64 c54), .v (.int .i64 c55), .v (.int .i64 c56), .v (.int .i64 c57), .v (.int .i64 c58)])] [] outs19 mouts19 fun y63 m64 =>
          bif decide ((es60.length + 1) * 48 ≤ 140737488355328) then (
            letIn (IntKind.wrap .i64 (v49 + 1) : Int) fun n65 =>
            (lvl Try.prog HH (n + 0)).1 ⟨6, 0, true⟩ 2 (loopOf Try.f6 2) (encSt S6_2 ((v45, v46, v47, v48, (), (), (), (), n65, ()), ((c50, c51, c52, ()), (c53, c54, c55, c56, c57, c58, ()), es59, (es60 ++ ([[.v (.int .i64 y63.1.1), .v (.int .i64 y63.1.2.1), .v (.int .i64 y63.1.2.2.1), .v (.int .i64 y63.1.2.2.2.1), .v (.int .i64 y63.1.2.2.2.2.1), .v (.int .i64 y63.1.2.2.2.2.2.1)]] : List (List D1))), ()))))
          else
          none)
        else
        none)
      else
      none)
    else
    some (.exit 2, encSt S6_2_e2 ((v45, v46, v47, v48, (), (), (), ()), ((c50, c51, c52, ()), es59, es60, ()))) := by kernel_rfl

theorem fn6 (n : Nat) (l1 : List (List D1)) (m2 : List (List D1)) (t3 : Int) (t4 : Int) (t5 : Int) (x6 : Int) (y7 : Int) (z8 : Int) (p9 : Int) (q10 : Int) : (lvl Try.prog HH (n + 1)).2 6 [.s (.one (.fr 1 l1)), .s (.one (.fr 1 m2)), .s (.agg true [.v (.int .i64 t3), .v (.int .i64 t4), .v (.int .i64 t5)]), .s (.one (.v (.int .i64 x6))), .s (.one (.v (.int .i64 y7))), .s (.one (.v (.int .i64 z8))), .s (.one (.v (.int .i64 p9))), .s (.one (.v (.int .i64 q10)))] [] =
    callT (lvl Try.prog HH (n + 0)).2 11 [.s (.one (.fr 1 l1)), .s (.one (.v (.int .i64 3000)))] [] outs11 mouts11 fun y11 m12 =>
    callT (lvl Try.prog HH (n + 0)).2 11 [.s (.one (.fr 1 m2)), .s (.one (.v (.int .i64 3000)))] [] outs11 mouts11 fun y13 m14 =>
    callT (lvl Try.prog HH (n + 0)).2 12 [.s (.one (.v (.int .i64 x6))), .s (.one (.v (.int .i64 y7))), .s (.one (.v (.int .i64 z8)))] [] outs12 mouts12 fun y15 m16 =>
    letIn (Int.fdiv t3 4398046511104 : Int) fun n17 =>
    letIn (Int.fdiv t4 4398046511104 : Int) fun n18 =>
    letIn (Int.fdiv t5 4398046511104 : Int) fun n19 =>
    callT (lvl Try.prog HH (n + 0)).2 18 [.s (.agg true [.v (.int .i64 n17), .v (.int .i64 n18), .v (.int .i64 n19)])] [] outs18 mouts18 fun y20 m21 =>
    ((lvl Try.prog HH (n + 0)).1 ⟨6, 0, true⟩ 0 (loopOf Try.f6 0) (encSt S6_0 ((p9, q10, y11.1, y13.1, (), (), (), (), 0, ()), ((y15.1.1, y15.1.2.1, y15.1.2.2.1, ()), (y20.1.1, y20.1.2.1, y20.1.2.2.1, y20.1.2.2.2.1, y20.1.2.2.2.2.1, y20.1.2.2.2.2.2.1, ()), [], [], ())))).bind fun p43 =>
    bif sameEx (.exit 0) p43.1 then (decSt S6_0_e0 p43.2 fun x44 =>
      ((lvl Try.prog HH (n + 0)).1 ⟨6, 0, true⟩ 2 (loopOf Try.f6 2) (encSt S6_2 ((x44.1.1, x44.1.2.1, x44.1.2.2.1, x44.1.2.2.2.1, (), (), (), (), 0, ()), ((x44.2.1.1, x44.2.1.2.1, x44.2.1.2.2.1, ()), (x44.2.2.1.1, x44.2.2.1.2.1, x44.2.2.1.2.2.1, x44.2.2.1.2.2.2.1, x44.2.2.1.2.2.2.2.1, x44.2.2.1.2.2.2.2.2.1, ()), x44.2.2.2.1, x44.2.2.2.2.1, ())))).bind fun p66 =>
      bif sameEx (.exit 2) p66.1 then (decSt S6_2_e2 p66.2 fun x67 =>
        callT (lvl Try.prog HH (n + 0)).2 15 [.s (.one (.v (.int .i64 x67.1.1)))] [] outs15 mouts15 fun y68 m69 =>
        callT (lvl Try.prog HH (n + 0)).2 15 [.s (.one (.v (.int .i64 x67.1.2.1)))] [] outs15 mouts15 fun y70 m71 =>
        callT (lvl Try.prog HH (n + 0)).2 16 [.s (.agg true [.v (.int .i64 x67.2.1.1), .v (.int .i64 x67.2.1.2.1), .v (.int .i64 x67.2.1.2.2.1)]), .s (.one (.fr 6 x67.1.2.2.1)), .s (.one (.v (.int .i64 y68.1))), .s (.one (.fr 6 x67.1.2.2.2.1)), .s (.one (.v (.int .i64 y70.1)))] [] outs16 mouts16 fun y72 m73 =>
        callT (lvl Try.prog HH (n + 0)).2 15 [.s (.one (.v (.int .i64 x67.1.1)))] [] outs15 mouts15 fun y74 m75 =>
        callT (lvl Try.prog HH (n + 0)).2 15 [.s (.one (.v (.int .i64 x67.1.2.1)))] [] outs15 mouts15 fun y76 m77 =>
        callT (lvl Try.prog HH (n + 0)).2 16 [.s (.agg true [.v (.int .i64 x67.2.1.1), .v (.int .i64 x67.2.1.2.1), .v (.int .i64 x67.2.1.2.2.1)]), .s (.one (.fr 6 x67.2.2.1)), .s (.one (.v (.int .i64 y74.1))), .s (.one (.fr 6 x67.2.2.2.1)), .s (.one (.v (.int .i64 y76.1)))] [] outs16 mouts16 fun y78 m79 =>
        callT (lvl Try.prog HH (n + 0)).2 13 [] [] outs13 mouts13 fun y80 m81 =>
        bif y80.1 then (
          bif y72.2.1 then (
            bif y78.2.1 then (
              some (.s (.one (.v (.bool (y72.1 == y78.1)))), []))
            else
            some (.s (.one (.v (.bool false))), []))
          else
          some (.s (.one (.v (.bool false))), []))
        else
        some (.s (.one (.v (.bool false))), []))
      else
      none)
    else
    none := by kernel_rfl

end Go.Proofs.Ytanjfmogmlgphaa.Am
