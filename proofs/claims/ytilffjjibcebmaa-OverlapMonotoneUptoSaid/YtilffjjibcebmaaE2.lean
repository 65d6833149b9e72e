/- PRINTED by amprint.py: what the abstract machine answers, function by function. -/
import Derived.Test.YtilffjjibcebmaaH
import Derived.KernelRfl
set_option linter.unusedVariables false
set_option maxRecDepth 100000
namespace Go.Proofs.Ytilffjjibcebmaa.Am
open Go Go.Proofs

/-! armplan/overlap.Excess -/
theorem fn16_w (w : CallF → CallF) (v : LoopF → LoopF) (n : Nat) (left1 : List (List D1)) (right2 : List (List D1)) (a3 : List (List D1)) (ra4 : Int) (b5 : List (List D1)) (rb6 : Int) : (lvlW w v symL Try.prog HH (n + 5)).2 16 [.s (.one (.fr 1 left1)), .s (.one (.fr 1 right2)), .s (.one (.fr 6 a3)), .s (.one (.v (.int .i64 ra4))), .s (.one (.fr 6 b5)), .s (.one (.v (.int .i64 rb6)))] [] =
    callT (w (lvlW w v symL Try.prog HH (n + 4)).2) 32 [.s (.one (.fr 6 a3)), .s (.one (.fr 1 left1))] [] outs32 mouts32 fun y7 m8 =>
    callT (w (lvlW w v symL Try.prog HH (n + 4)).2) 32 [.s (.one (.fr 6 b5)), .s (.one (.fr 1 right2))] [] outs32 mouts32 fun y9 m10 =>
    bif !y7.2.2.1 then (
      some (.tup [.one (.v (.int .i64 0)), .one (.v (.bool false))], []))
    else
    bif !y9.2.2.1 then (
      some (.tup [.one (.v (.int .i64 0)), .one (.v (.bool false))], []))
    else
    bif y7.2.1 != y9.2.1 then (
      some (.tup [.one (.v (.int .i64 0)), .one (.v (.bool false))], []))
    else
    bif decide (ra4 < 0) then (
      some (.tup [.one (.v (.int .i64 0)), .one (.v (.bool false))], []))
    else
    bif decide (ra4 > 1048576) then (
      some (.tup [.one (.v (.int .i64 0)), .one (.v (.bool false))], []))
    else
    bif decide (rb6 < 0) then (
      some (.tup [.one (.v (.int .i64 0)), .one (.v (.bool false))], []))
    else
    bif decide (rb6 > 1048576) then (
      some (.tup [.one (.v (.int .i64 0)), .one (.v (.bool false))], []))
    else
    letIn (IntKind.wrap .i64 (ra4 + rb6) : Int) fun n11 =>
    letIn (IntKind.wrap .i64 (n11 * n11) : Int) fun n12 =>
    Option.bind (
      letIn (IntKind.wrap .i64 (y7.1.1 - y9.1.2.1) : Int) fun n13 =>
      letIn (IntKind.wrap .i64 (y7.1.2.1 - y9.1.1) : Int) fun n14 =>
      callT (w (lvlW w v symL Try.prog HH (n + 3)).2) 33 [.s (.one (.fr 1 [[.v (.int .i64 n13)], [.v (.int .i64 n14)]]))] [] outs33 mouts33 fun y15 m16 =>
      letIn (IntKind.wrap .i64 (y15.1 + y7.2.1) : Int) fun n17 =>
      letIn (IntKind.wrap .i64 (n17 - 1) : Int) fun n18 =>
      bif y7.2.1 == 0 then (
        none)
      else
      letIn (IntKind.wrap .i64 (Int.tdiv n18 y7.2.1) : Int) fun n19 =>
      bif decide (n19 > n11) then (
        some (.ret, encSt S16_0_r (((-1), true, ()), ())))
      else
      letIn (IntKind.wrap .i64 (n19 * n19) : Int) fun n20 =>
      letIn (IntKind.wrap .i64 (n12 - n20) : Int) fun n21 =>
      letIn (IntKind.wrap .i64 (y7.1.2.2.1 - y9.1.2.2.2.1) : Int) fun n22 =>
      letIn (IntKind.wrap .i64 (y7.1.2.2.2.1 - y9.1.2.2.1) : Int) fun n23 =>
      callT (w (lvlW w v symL Try.prog HH (n + 2)).2) 33 [.s (.one (.fr 1 [[.v (.int .i64 n22)], [.v (.int .i64 n23)]]))] [] outs33 mouts33 fun y24 m25 =>
      letIn (IntKind.wrap .i64 (y24.1 + y7.2.1) : Int) fun n26 =>
      letIn (IntKind.wrap .i64 (n26 - 1) : Int) fun n27 =>
      bif y7.2.1 == 0 then (
        none)
      else
      letIn (IntKind.wrap .i64 (Int.tdiv n27 y7.2.1) : Int) fun n28 =>
      bif decide (n28 > n11) then (
        some (.ret, encSt S16_0_r (((-1), true, ()), ())))
      else
      letIn (IntKind.wrap .i64 (n28 * n28) : Int) fun n29 =>
      letIn (IntKind.wrap .i64 (n21 - n29) : Int) fun n30 =>
      letIn (IntKind.wrap .i64 (y7.1.2.2.2.2.1 - y9.1.2.2.2.2.2.1) : Int) fun n31 =>
      letIn (IntKind.wrap .i64 (y7.1.2.2.2.2.2.1 - y9.1.2.2.2.2.1) : Int) fun n32 =>
      callT (w (lvlW w v symL Try.prog HH (n + 1)).2) 33 [.s (.one (.fr 1 [[.v (.int .i64 n31)], [.v (.int .i64 n32)]]))] [] outs33 mouts33 fun y33 m34 =>
      letIn (IntKind.wrap .i64 (y33.1 + y7.2.1) : Int) fun n35 =>
      letIn (IntKind.wrap .i64 (n35 - 1) : Int) fun n36 =>
      bif y7.2.1 == 0 then (
        none)
      else
      letIn (IntKind.wrap .i64 (Int.tdiv n36 y7.2.1) : Int) fun n37 =>
      bif decide (n37 > n11) then (
        some (.ret, encSt S16_0_r (((-1), true, ()), ())))
      else
      letIn (IntKind.wrap .i64 (n37 * n37) : Int) fun n38 =>
      letIn (IntKind.wrap .i64 (n30 - n38) : Int) fun n39 =>
      some (.exit 0, encSt S16_0_e0 ((n39, ()), ()))) fun p40 =>
    bif sameEx (.ret) p40.1 then (decSt S16_0_r p40.2 fun x41 =>
      some (.tup [.one (.v (.int .i64 x41.1.1)), .one (.v (.bool x41.1.2.1))], []))
    else
    bif sameEx (.exit 0) p40.1 then (decSt S16_0_e0 p40.2 fun x42 =>
      some (.tup [.one (.v (.int .i64 x42.1.1)), .one (.v (.bool true))], []))
    else
    none := by kernel_rfl
theorem fn16 (n : Nat) (left1 : List (List D1)) (right2 : List (List D1)) (a3 : List (List D1)) (ra4 : Int) (b5 : List (List D1)) (rb6 : Int) : (lvl Try.prog HH (n + 5)).2 16 [.s (.one (.fr 1 left1)), .s (.one (.fr 1 right2)), .s (.one (.fr 6 a3)), .s (.one (.v (.int .i64 ra4))), .s (.one (.fr 6 b5)), .s (.one (.v (.int .i64 rb6)))] [] =
    callT (lvl Try.prog HH (n + 4)).2 32 [.s (.one (.fr 6 a3)), .s (.one (.fr 1 left1))] [] outs32 mouts32 fun y7 m8 =>
    callT (lvl Try.prog HH (n + 4)).2 32 [.s (.one (.fr 6 b5)), .s (.one (.fr 1 right2))] [] outs32 mouts32 fun y9 m10 =>
    bif !y7.2.2.1 then (
      some (.tup [.one (.v (.int .i64 0)), .one (.v (.bool false))], []))
    else
    bif !y9.2.2.1 then (
      some (.tup [.one (.v (.int .i64 0)), .one (.v (.bool false))], []))
    else
    bif y7.2.1 != y9.2.1 then (
      some (.tup [.one (.v (.int .i64 0)), .one (.v (.bool false))], []))
    else
    bif decide (ra4 < 0) then (
      some (.tup [.one (.v (.int .i64 0)), .one (.v (.bool false))], []))
    else
    bif decide (ra4 > 1048576) then (
      some (.tup [.one (.v (.int .i64 0)), .one (.v (.bool false))], []))
    else
    bif decide (rb6 < 0) then (
      some (.tup [.one (.v (.int .i64 0)), .one (.v (.bool false))], []))
    else
    bif decide (rb6 > 1048576) then (
      some (.tup [.one (.v (.int .i64 0)), .one (.v (.bool false))], []))
    else
    letIn (IntKind.wrap .i64 (ra4 + rb6) : Int) fun n11 =>
    letIn (IntKind.wrap .i64 (n11 * n11) : Int) fun n12 =>
    Option.bind (
      letIn (IntKind.wrap .i64 (y7.1.1 - y9.1.2.1) : Int) fun n13 =>
      letIn (IntKind.wrap .i64 (y7.1.2.1 - y9.1.1) : Int) fun n14 =>
      callT (lvl Try.prog HH (n + 3)).2 33 [.s (.one (.fr 1 [[.v (.int .i64 n13)], [.v (.int .i64 n14)]]))] [] outs33 mouts33 fun y15 m16 =>
      letIn (IntKind.wrap .i64 (y15.1 + y7.2.1) : Int) fun n17 =>
      letIn (IntKind.wrap .i64 (n17 - 1) : Int) fun n18 =>
      bif y7.2.1 == 0 then (
        none)
      else
      letIn (IntKind.wrap .i64 (Int.tdiv n18 y7.2.1) : Int) fun n19 =>
      bif decide (n19 > n11) then (
        some (.ret, encSt S16_0_r (((-1), true, ()), ())))
      else
      letIn (IntKind.wrap .i64 (n19 * n19) : Int) fun n20 =>
      letIn (IntKind.wrap .i64 (n12 - n20) : Int) fun n21 =>
      letIn (IntKind.wrap .i64 (y7.1.2.2.1 - y9.1.2.2.2.1) : Int) fun n22 =>
      letIn (IntKind.wrap .i64 (y7.1.2.2.2.1 - y9.1.2.2.1) : Int) fun n23 =>
      callT (lvl Try.prog HH (n + 2)).2 33 [.s (.one (.fr 1 [[.v (.int .i64 n22)], [.v (.int .i64 n23)]]))] [] outs33 mouts33 fun y24 m25 =>
      letIn (IntKind.wrap .i64 (y24.1 + y7.2.1) : Int) fun n26 =>
      letIn (IntKind.wrap .i64 (n26 - 1) : Int) fun n27 =>
      bif y7.2.1 == 0 then (
        none)
      else
      letIn (IntKind.wrap .i64 (Int.tdiv n27 y7.2.1) : Int) fun n28 =>
      bif decide (n28 > n11) then (
        some (.ret, encSt S16_0_r (((-1), true, ()), ())))
      else
      letIn (IntKind.wrap .i64 (n28 * n28) : Int) fun n29 =>
      letIn (IntKind.wrap .i64 (n21 - n29) : Int) fun n30 =>
      letIn (IntKind.wrap .i64 (y7.1.2.2.2.2.1 - y9.1.2.2.2.2.2.1) : Int) fun n31 =>
      letIn (IntKind.wrap .i64 (y7.1.2.2.2.2.2.1 - y9.1.2.2.2.2.1) : Int) fun n32 =>
      callT (lvl Try.prog HH (n + 1)).2 33 [.s (.one (.fr 1 [[.v (.int .i64 n31)], [.v (.int .i64 n32)]]))] [] outs33 mouts33 fun y33 m34 =>
      letIn (IntKind.wrap .i64 (y33.1 + y7.2.1) : Int) fun n35 =>
      letIn (IntKind.wrap .i64 (n35 - 1) : Int) fun n36 =>
      bif y7.2.1 == 0 then (
        none)
      else
      letIn (IntKind.wrap .i64 (Int.tdiv n36 y7.2.1) : Int) fun n37 =>
      bif decide (n37 > n11) then (
        some (.ret, encSt S16_0_r (((-1), true, ()), ())))
      else
      letIn (IntKind.wrap .i64 (n37 * n37) : Int) fun n38 =>
      letIn (IntKind.wrap .i64 (n30 - n38) : Int) fun n39 =>
      some (.exit 0, encSt S16_0_e0 ((n39, ()), ()))) fun p40 =>
    bif sameEx (.ret) p40.1 then (decSt S16_0_r p40.2 fun x41 =>
      some (.tup [.one (.v (.int .i64 x41.1.1)), .one (.v (.bool x41.1.2.1))], []))
    else
    bif sameEx (.exit 0) p40.1 then (decSt S16_0_e0 p40.2 fun x42 =>
      some (.tup [.one (.v (.int .i64 x42.1.1)), .one (.v (.bool true))], []))
    else
    none := by
  have h := fn16_w (fun x => x) (fun x => x) n left1 right2 a3 ra4 b5 rb6
  rw [lvlW_id] at h
  exact h

/-! armplan/overlap.Overlaps -/
theorem fn17 (n : Nat) (left1 : List (List D1)) (right2 : List (List D1)) (a3 : List (List D1)) (ra4 : Int) (b5 : List (List D1)) (rb6 : Int) : (lvl Try.prog HH (n + 1)).2 17 [.s (.one (.fr 1 left1)), .s (.one (.fr 1 right2)), .s (.one (.fr 6 a3)), .s (.one (.v (.int .i64 ra4))), .s (.one (.fr 6 b5)), .s (.one (.v (.int .i64 rb6)))] [] =
    callT (lvl Try.prog HH (n + 0)).2 16 [.s (.one (.fr 1 left1)), .s (.one (.fr 1 right2)), .s (.one (.fr 6 a3)), .s (.one (.v (.int .i64 ra4))), .s (.one (.fr 6 b5)), .s (.one (.v (.int .i64 rb6)))] [] outs16 mouts16 fun y7 m8 =>
    bif y7.2.1 then (
      some (.s (.one (.v (.bool (decide (y7.1 ≥ 0))))), []))
    else
    some (.s (.one (.v (.bool false))), []) := by kernel_rfl

/-! armplan/armplanref1.Clamp -/
theorem fn52 (n : Nat) (a1 : Int) : (lvl Try.prog HH (n + 1)).2 52 [.s (.one (.v (.int .i64 a1)))] [] =
    letIn (if 2147483648 < a1 then 2147483648 else a1 : Int) fun n2 =>
    letIn (if n2 > (-2147483648) then n2 else (-2147483648) : Int) fun n3 =>
    some (.s (.one (.v (.int .i64 n3))), []) := by kernel_rfl

/-! armplan/armplanref1.Of -/
theorem fn44 (n : Nat) (x1 : Int) : (lvl Try.prog HH (n + 1)).2 44 [.s (.one (.v (.int .i64 x1)))] [] =
    callT (lvl Try.prog HH (n + 0)).2 52 [.s (.one (.v (.int .i64 x1)))] [] outs52 mouts52 fun y2 m3 =>
    callT (lvl Try.prog HH (n + 0)).2 52 [.s (.one (.v (.int .i64 x1)))] [] outs52 mouts52 fun y4 m5 =>
    some (.s (.agg true [.v (.int .i64 y2.1), .v (.int .i64 y4.1)]), []) := by kernel_rfl

/-! armplan/armplanref1.Point -/
theorem fn37 (n : Nat) (v1 : Int) (v2 : Int) (v3 : Int) : (lvl Try.prog HH (n + 1)).2 37 [.s (.agg true [.v (.int .i64 v1), .v (.int .i64 v2), .v (.int .i64 v3)])] [] =
    callT (lvl Try.prog HH (n + 0)).2 44 [.s (.one (.v (.int .i64 v1)))] [] outs44 mouts44 fun y4 m5 =>
    callT (lvl Try.prog HH (n + 0)).2 44 [.s (.one (.v (.int .i64 v2)))] [] outs44 mouts44 fun y6 m7 =>
    callT (lvl Try.prog HH (n + 0)).2 44 [.s (.one (.v (.int .i64 v3)))] [] outs44 mouts44 fun y8 m9 =>
    some (.s (.agg true [.v (.int .i64 y4.1.1), .v (.int .i64 y4.1.2.1), .v (.int .i64 y6.1.1), .v (.int .i64 y6.1.2.1), .v (.int .i64 y8.1.1), .v (.int .i64 y8.1.2.1)]), []) := by kernel_rfl

/-! armplan/armplanmake.Boxed -/
theorem loop29_0 (n : Nat) (v2 : List (List D1)) (v3 : Int) (es4 : List (List D1)) : (lvl Try.prog HH (n + 1)).1 ⟨29, 0, true⟩ 0 (loopOf Try.f29 0) (encSt S29_0 ((v2, (), v3, ()), (es4, ()))) =
    bif decide (v3 < (((v2.length : Nat) : Int))) then (
      bif decide (0 ≤ v3) then (
        (nth v2 v3.toNat).bind fun cs5 =>
        bif Nat.beq ((cs5.drop 0).take 3).length 3 then (
          decCts [.int .i64, .int .i64, .int .i64] ((cs5.drop 0).take 3) fun c6 =>
          callT (lvl Try.prog HH (n + 0)).2 37 [.s (.agg true [.v (.int .i64 c6.1), .v (.int .i64 c6.2.1), .v (.int .i64 c6.2.2.1)])] [] outs37 mouts37 fun y7 m8 =>
          bif decide ((es4.length + 1) * 48 ≤ 140737488355328) then (
            letIn (IntKind.wrap .i64 (v3 + 1) : Int) fun n9 =>
            (lvl Try.prog HH (n + 0)).1 ⟨29, 0, true⟩ 0 (loopOf Try.f29 0) (encSt S29_0 ((v2, (), n9, ()), ((es4 ++ ([[.v (.int .i64 y7.1.1), .v (.int .i64 y7.1.2.1), .v (.int .i64 y7.1.2.2.1), .v (.int .i64 y7.1.2.2.2.1), .v (.int .i64 y7.1.2.2.2.2.1), .v (.int .i64 y7.1.2.2.2.2.2.1)]] : List (List D1))), ()))))
          else
          none)
        else
        none)
      else
      none)
    else
    some (.exit 0, encSt S29_0_e0 (((), ()), (es4, ()))) := by kernel_rfl

theorem fn29 (n : Nat) (l1 : List (List D1)) : (lvl Try.prog HH (n + 1)).2 29 [.s (.one (.fr 3 l1))] [] =
    ((lvl Try.prog HH (n + 0)).1 ⟨29, 0, true⟩ 0 (loopOf Try.f29 0) (encSt S29_0 ((l1, (), 0, ()), ([], ())))).bind fun p10 =>
    bif sameEx (.exit 0) p10.1 then (decSt S29_0_e0 p10.2 fun x11 =>
      some (.s (.one (.fr 6 x11.2.1)), []))
    else
    none := by kernel_rfl

/-! armplan/armplanlaw16.awake -/
theorem fn12_w (w : CallF → CallF) (v : LoopF → LoopF) (n : Nat)  : (lvlW w v symL Try.prog HH (n + 1)).2 12 [] [] =
    callT (w (lvlW w v symL Try.prog HH (n + 0)).2) 29 [.s (.one (.fr 3 [[.v (.int .i64 0), .v (.int .i64 0), .v (.int .i64 0)]]))] [] outs29 mouts29 fun y1 m2 =>
    callT (w (lvlW w v symL Try.prog HH (n + 0)).2) 16 [.s (.one (.fr 1 [[.v (.int .i64 1)]])), .s (.one (.fr 1 [[.v (.int .i64 1)]])), .s (.one (.fr 6 y1.1)), .s (.one (.v (.int .i64 3))), .s (.one (.fr 6 [[.v (.int .i64 3), .v (.int .i64 4), .v (.int .i64 0), .v (.int .i64 0), .v (.int .i64 0), .v (.int .i64 0)]])), .s (.one (.v (.int .i64 1)))] [] outs16 mouts16 fun y3 m4 =>
    callT (w (lvlW w v symL Try.prog HH (n + 0)).2) 16 [.s (.one (.fr 1 [[.v (.int .i64 1)]])), .s (.one (.fr 1 [[.v (.int .i64 1)]])), .s (.one (.fr 6 y1.1)), .s (.one (.v (.int .i64 3))), .s (.one (.fr 6 [[.v (.int .i64 3), .v (.int .i64 4), .v (.int .i64 0), .v (.int .i64 0), .v (.int .i64 0), .v (.int .i64 0)]])), .s (.one (.v (.int .i64 0)))] [] outs16 mouts16 fun y5 m6 =>
    bif y3.2.1 then (
      bif y5.2.1 then (
        bif y3.1 == 0 then (
          bif y5.1 == (-1) then (
            callT (w (lvlW w v symL Try.prog HH (n + 0)).2) 17 [.s (.one (.fr 1 [[.v (.int .i64 1)]])), .s (.one (.fr 1 [[.v (.int .i64 1)]])), .s (.one (.fr 6 y1.1)), .s (.one (.v (.int .i64 3))), .s (.one (.fr 6 [[.v (.int .i64 3), .v (.int .i64 4), .v (.int .i64 0), .v (.int .i64 0), .v (.int .i64 0), .v (.int .i64 0)]])), .s (.one (.v (.int .i64 1)))] [] outs17 mouts17 fun y7 m8 =>
            some (.s (.one (.v (.bool y7.1))), []))
          else
          some (.s (.one (.v (.bool false))), []))
        else
        some (.s (.one (.v (.bool false))), []))
      else
      some (.s (.one (.v (.bool false))), []))
    else
    some (.s (.one (.v (.bool false))), []) := by kernel_rfl
theorem fn12 (n : Nat)  : (lvl Try.prog HH (n + 1)).2 12 [] [] =
    callT (lvl Try.prog HH (n + 0)).2 29 [.s (.one (.fr 3 [[.v (.int .i64 0), .v (.int .i64 0), .v (.int .i64 0)]]))] [] outs29 mouts29 fun y1 m2 =>
    callT (lvl Try.prog HH (n + 0)).2 16 [.s (.one (.fr 1 [[.v (.int .i64 1)]])), .s (.one (.fr 1 [[.v (.int .i64 1)]])), .s (.one (.fr 6 y1.1)), .s (.one (.v (.int .i64 3))), .s (.one (.fr 6 [[.v (.int .i64 3), .v (.int .i64 4), .v (.int .i64 0), .v (.int .i64 0), .v (.int .i64 0), .v (.int .i64 0)]])), .s (.one (.v (.int .i64 1)))] [] outs16 mouts16 fun y3 m4 =>
    callT (lvl Try.prog HH (n + 0)).2 16 [.s (.one (.fr 1 [[.v (.int .i64 1)]])), .s (.one (.fr 1 [[.v (.int .i64 1)]])), .s (.one (.fr 6 y1.1)), .s (.one (.v (.int .i64 3))), .s (.one (.fr 6 [[.v (.int .i64 3), .v (.int .i64 4), .v (.int .i64 0), .v (.int .i64 0), .v (.int .i64 0), .v (.int .i64 0)]])), .s (.one (.v (.int .i64 0)))] [] outs16 mouts16 fun y5 m6 =>
    bif y3.2.1 then (
      bif y5.2.1 then (
        bif y3.1 == 0 then (
          bif y5.1 == (-1) then (
            callT (lvl Try.prog HH (n + 0)).2 17 [.s (.one (.fr 1 [[.v (.int .i64 1)]])), .s (.one (.fr 1 [[.v (.int .i64 1)]])), .s (.one (.fr 6 y1.1)), .s (.one (.v (.int .i64 3))), .s (.one (.fr 6 [[.v (.int .i64 3), .v (.int .i64 4), .v (.int .i64 0), .v (.int .i64 0), .v (.int .i64 0), .v (.int .i64 0)]])), .s (.one (.v (.int .i64 1)))] [] outs17 mouts17 fun y7 m8 =>
            some (.s (.one (.v (.bool y7.1))), []))
          else
          some (.s (.one (.v (.bool false))), []))
        else
        some (.s (.one (.v (.bool false))), []))
      else
      some (.s (.one (.v (.bool false))), []))
    else
    some (.s (.one (.v (.bool false))), []) := by
  have h := fn12_w (fun x => x) (fun x => x) n 
  rw [lvlW_id] at h
  exact h

end Go.Proofs.Ytilffjjibcebmaa.Am
