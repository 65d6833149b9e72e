/- PRINTED by amprint.py: what the abstract machine answers, function by function. -/
import Derived.Test.YtilffjjibcebmaaH
import Derived.KernelRfl
set_option linter.unusedVariables false
set_option maxRecDepth 100000
namespace Go.Proofs.Ytilffjjibcebmaa.Am
open Go Go.Proofs

/-! armplan/overlap.Excess -/
theorem fn16_w (w : CallF → CallF) (v : LoopF → LoopF) (n : Nat) (left1 : List (List D1)) (right2 : List (List D1)) (a3 : List (List D1)) (ra4 : Int) (b5 : List (List D1)) (rb6 : Int) : (lvlW w v symL Try.prog HH (n + 5)).2 16 [.s (.one (.fr 1 left1)), .s (.one (.fr 1 right2)), .s (.one (.fr 6 a3)), .s (.one (.v (.int .i64 ra4))), .s (.one (.fr 6 b5)), .s (.one (.v (.int .i64 rb6)))] [] =
    callT (w (lvlW w v symL Try.prog HH (n + 4)).2) 32 [.s (.one (.fr 6 a3)), .s (.one (.fr 1 left1))] [] outs32 mouts32 fun y7 m8 =>
    callT (w (lvlW w v symL Try.prog HH (n + 4)).2) 32 [.s (.one (.fr 6 b5)), .s (.one (.fr 1 right2))] [] outs32 mouts32 fun y9 m10 =>
    bif !y7.2.2.1 then (
      some (.tup [.one (.v (.int .i64 0)), .one (.v (.bool false))], []))
    else
    bif !y9.2.2.1 then (
      some (.tup [.one (.v (.int .i64 0)), .one (.v (.bool false))], []))
    else
    bif y7.2.1 != y9.2.1 then (
      some (.tup [.one (.v (.int .i64 0)), .one (.v (.bool false))], []))
    else
    bif decide (ra4 < 0) then (
      some (.tup [.one (.v (.int .i64 0)), .one (.v (.bool false))], []))
    else
    bif decide (ra4 > 1048576) then (
      some (.tup [.one (.v (.int .i64 0)), .one (.v (.bool false))], []))
    else
    bif decide (rb6 < 0) then (
      some (.tup [.one (.v (.int .i64 0)), .one (.v (.bool false))], []))
    else
    bif decide (rb6 > 1048576) then (
      some (.tup [.one (.v (.int .i64 0)), .one (.v (.bool false))], []))
    else
    letIn (IntKind.wrap .i64 (ra4 + rb6) : Int) fun n11 =>
    letIn (IntKind.wrap .i64 (n11 * n11) : Int) fun n12 =>
    Option.bind (
      letIn (IntKind.wrap .i64 (y7.1.1 - y9.1.2.1) : Int) fun n13 =>
      letIn (IntKind.wrap .i64 (y7.1.2.1 - y9.1.1) : Int) fun n14 =>
      callT (w (lvlW w v symL Try.prog HH (n + 3)).2) 33 [.s (.one (.fr 1 [[.v (.int .i64 n13)], [.v (.int .i64 n14)]]))] [] outs33 mouts33 fun y15 m16 =>
      letIn (IntKind.wrap .i64 (y15.1 + y7.2.1) : Int) fun n17 =>
      letIn (IntKind.wrap .i64 (n17 - 1) : Int) fun n18 =>
      bif y7.2.1 == 0 then (
        none)
      else
      letIn (IntKind.wrap .i64 (Int.tdiv n18 y7.2.1) : Int) fun n19 =>
      bif decide (n19 > n11) then (
        some (.ret, encSt S16_0_r (((-1), true, ()), ())))
      else
      letIn (IntKind.wrap .i64 (n19 * n19) : Int) fun n20 =>
      letIn (IntKind.wrap .i64 (n12 - n20) : Int) fun n21 =>
      letIn (IntKind.wrap .i64 (y7.1.2.2.1 - y9.1.2.2.2.1) : Int) fun n22 =>
      letIn (IntKind.wrap .i64 (y7.1.2.2.2.1 - y9.1.2.2.1) : Int) fun n23 =>
      callT (w (lvlW w v symL Try.prog HH (n + 2)).2) 33 [.s (.one (.fr 1 [[.v (.int .i64 n22)], [.v (.int .i64 n23)]]))] [] outs33 mouts33 fun y24 m25 =>
      letIn (IntKind.wrap .i64 (y24.1 + y7.2.1) : Int) fun n26 =>
      letIn (IntKind.wrap .i64 (n26 - 1) : Int) fun n27 =>
      bif y7.2.1 == 0 then (
        none)
      else
      letIn (IntKind.wrap .i64 (Int.tdiv n27 y7.2.1) : Int) fun n28 =>
      bif decide (n28 > n11) then (
        some (.ret, encSt S16_0_r (((-1), true, ()), ())))
      else
      letIn (IntKind.wrap .i64 (n28 * n28) : Int) fun n29 =>
      letIn (IntKind.wrap .i64 (n21 - n29) : Int) fun n30 =>
      letIn (IntKind.wrap .i64 (y7.1.2.2.2.2.1 - y9.1.2.2.2.2.2.1) : Int) fun n31 =>
      letIn (IntKind.wrap .i64 (y7.1.2.2.2.2.2.1 - y9.1.2.2.2.2.1) : Int) fun n32 =>
      callT (w (lvlW w v symL Try.prog HH (n + 1)).2) 33 [.s (.one (.fr 1 [[.v (.int .i64 n31)], [.v (.int .i64 n32)]]))] [] outs33 mouts33 fun y33 m34 =>
      letIn (IntKind.wrap .i64 (y33.1 + y7.2.1) : Int) fun n35 =>
      letIn (IntKind.wrap .i64 (n35 - 1) : Int) fun n36 =>
      bif y7.2.1 == 0 then (
        none)
      else
      letIn (IntKind.wrap .i64 (Int.tdiv n36 y7.2.1) : Int) fun n37 =>
      bif decide (n37 > n11) then (
        some (.ret, encSt S16_0_r (((-1), true, ()), ())))
      else
      letIn (IntKind.wrap .i64 (n37 * n37) : Int) fun n38 =>
      letIn (IntKind.wrap .i64 (n30 - n38) : Int) fun n39 =>
      some (.exit 0, encSt S16_0_e0 ((n39, ()), ()))) fun p40 =>
    bif sameEx (.ret) p40.1 then (decSt S16_0_r p40.2 fun x41 =>
      some (.tup [.one (.v (.int .i64 x41.1.1)), .one (.v (.bool x41.1.2.1))], []))
    else
    bif sameEx (.exit 0) p40.1 then (decSt S16_0_e0 p40.2 fun x42 =>
      some (.tup [.one (.v (.int .i64 x42.1.1)), .one (.v (.bool true))], []))
    else
    none := by kernel_rfl
theorem fn16 (n : Nat) (left1 : List (List D1)) (right2 : List (List D1)) (a3 : List (List D1)) (ra4 : Int) (b5 : List (List D1)) (rb6 : Int) : (lvl Try.prog HH (n + 5)).2 16 [.s (.one (.fr 1 left1)), .s (.one (.fr 1 right2)), .s (.one (.fr 6 a3)), .s (.one (.v (.int .i64 ra4))), .s (.one (.fr 6 b5)), .s (.one (.v (.int .i64 rb6)))] [] =
    callT (lvl Try.prog HH (n + 4)).2 32 [.s (.one (.fr 6 a3)), .s (.one (.fr 1 left1))] [] outs32 mouts32 fun y7 m8 =>
    callT (lvl Try.prog HH (n + 4)).2 32 [.s (.one (.fr 6 b5)), .s (.one (.fr 1 right2))] [] outs32 mouts32 fun y9 m10 =>
    bif !y7.2.2.1 then (
      some (.tup [.one (.v (.int .i64 0)), .one (.v (.bool false))], []))
    else
    bif !y9.2.2.1 then (
      some (.tup [.one (.v (.int .i64 0)), .one (.v (.bool false))], []))
    else
    bif y7.2.1 != y9.2.1 then (
      some (.tup [.one (.v (.int .i64 0)), .one (.v (.bool false))], []))
    else
    bif decide (ra4 < 0) then (
      some (.tup [.one (.v (.int .i64 0)), .one (.v (.bool false))], []))
    else
    bif decide (ra4 > 1048576) then (
      some (.tup [.one (.v (.int .i64 0)), .one (.v (.bool false))], []))
    else
    bif decide (rb6 < 0) then (
      some (.tup [.one (.v (.int .i64 0)), .one (.v (.bool false))], []))
    else
    bif decide (rb6 > 1048576) then (
      some (.tup [.one (.v (.int .i64 0)), .one (.v (.bool false))], []))
    else
    letIn (IntKind.wrap .i64 (ra4 + rb6) : Int) fun n11 =>
    letIn (IntKind.wrap .i64 (n11 * n11) : Int) fun n12 =>
    Option.bind (
      letIn (IntKind.wrap .i64 (y7.1.1 - y9.1.2.1) : Int) fun n13 =>
      letIn (IntKind.wrap .i64 (y7.1.2.1 - y9.1.1) : Int) fun n14 =>
      callT (lvl Try.prog HH (n + 3)).2 33 [.s (.one (.fr 1 [[.v (.int .i64 n13)], [.v (.int .i64 n14)]]))] [] outs33 mouts33 fun y15 m16 =>
      letIn (IntKind.wrap .i64 (y15.1 + y7.2.1) : Int) fun n17 =>
      letIn (IntKind.wrap .i64 (n17 - 1) : Int) fun n18 =>
      bif y7.2.1 == 0 then (
        none)
      else
      letIn (IntKind.wrap .i64 (Int.tdiv n18 y7.2.1) : Int) fun n19 =>
      bif decide (n19 > n11) then (
        some (.ret, encSt S16_0_r (((-1), true, ()), ())))
      else
      letIn (IntKind.wrap .i64 (n19 * n19) : Int) fun n20 =>
      letIn (IntKind.wrap .i64 (n12 - n20) : Int) fun n21 =>
      letIn (IntKind.wrap .i64 (y7.1.2.2.1 - y9.1.2.2.2.1) : Int) fun n22 =>
      letIn (IntKind.wrap .i64 (y7.1.2.2.2.1 - y9.1.2.2.1) : Int) fun n23 =>
      callT (lvl Try.prog HH (n + 2)).2 33 [.s (.one (.fr 1 [[.v (.int .i64 n22)], [.v (.int .i64 n23)]]))] [] outs33 mouts33 fun y24 m25 =>
      letIn (IntKind.wrap .i64 (y24.1 + y7.2.1) : Int) fun n26 =>
      letIn (IntKind.wrap .i64 (n26 - 1) : Int) fun n27 =>
      bif y7.2.1 == 0 then (
        none)
      else
      letIn (IntKind.wrap .i64 (Int.tdiv n27 y7.2.1) : Int) fun n28 =>
      bif decide (n28 > n11) then (
        some (.ret, encSt S16_0_r (((-1), true, ()), ())))
      else
      letIn (IntKind.wrap .i64 (n28 * n28) : Int) fun n29 =>
      letIn (IntKind.wrap .i64 (n21 - n29) : Int) fun n30 =>
      letIn (IntKind.wrap .i64 (y7.1.2.2.2.2.1 - y9.1.2.2.2.2.2.1) : Int) fun n31 =>
      letIn (IntKind.wrap .i64 (y7.1.2.2.2.2.2.1 - y9.1.2.2.2.2.1) : Int) fun n32 =>
      callT (lvl Try.prog HH (n + 1)).2 33 [.s (.one (.fr 1 [[.v (.int .i64 n31)], [.v (.int .i64 n32)]]))] [] outs33 mouts33 fun y33 m34 =>
      letIn (IntKind.wrap .i64 (y33.1 + y7.2.1) : Int) fun n35 =>
      letIn (IntKind.wrap .i64 (n35 - 1) : Int) fun n36 =>
      bif y7.2.1 == 0 then (
        none)
      else
      letIn (IntKind.wrap .i64 (Int.tdiv n36 y7.2.1) : Int) fun n37 =>
      bif decide (n37 > n11) then (
        some (.ret, encSt S16_0_r (((-1), true, ()), ())))
      else
      letIn (IntKind.wrap .i64 (n37 * n37) : Int) fun n38 =>
      letIn (IntKind.wrap .i64 (n30 - n38) : Int) fun n39 =>
      some (.exit 0, encSt S16_0_e0 ((n39, ()), ()))) fun p40 =>
    bif sameEx (.ret) p40.1 then (decSt S16_0_r p40.2 fun x41 =>
      some (.tup [.one (.v (.int .i64 x41.1.1)), .one (.v (.bool x41.1.2.1))], []))
    else
    bif sameEx (.exit 0) p40.1 then (decSt S16_0_e0 p40.2 fun x42 =>
      some (.tup [.one (.v (.int .i64 x42.1.1)), .one (.v (.bool true))], []))
    else
    none := by
  have h := fn16_w (fun x => x) (fun x => x) n left1 right2 a3 ra4 b5 rb6
  rw [lvlW_id] at h
  exact h

/-! armplan/overlap.Overlaps -/
theorem fn17 (n : Nat) (left1 : List (List D1)) (right2 : List (List D1)) (a3 : List (List D1)) (ra4 : Int) (b5 : List (List D1)) (rb6 : Int) : (lvl Try.prog HH (n + 1)).2 17 [.s (.one (.fr 1 left1)), .s (.one (.fr 1 right2)), .s (.one (.fr 6 a3)), .s (.one (.v (.int .i64 ra4))), .s (.one (.fr 6 b5)), .s (.one (.v (.int .i64 rb6)))] [] =
    callT (lvl Try.prog HH (n + 0)).2 16 [.s (.one (.fr 1 left1)), .s (.one (.fr 1 right2)), .s (.one (.fr 6 a3)), .s (.one (.v (.int .i64 ra4))), .s (.one (.fr 6 b5)), .s (.one (.v (.int .i64 rb6)))] [] outs16 mouts16 fun y7 m8 =>
    bif y7.2.1 then (
      some (.s (.one (.v (.bool (decide (y7.1 ≥ 0))))), []))
    else
    some (.s (.one (.v (.bool false))), []) := by kernel_rfl

/-! armplan/armplanlaw16.awake -/
theorem fn12_w (w : CallF → CallF) (v : LoopF → LoopF) (n : Nat)  : (lvlW w v symL Try.prog HH (n + 1)).2 12 [] [] =
    callT (w (lvlW w v symL Try.prog HH (n + 0)).2) 29 [.s (.one (.fr 3 [[.v (.int .i64 0), .v (.int .i64 0), .v (.int .i64 0)]]))] [] outs29 mouts29 fun y1 m2 =>
    callT (w (lvlW w v symL Try.prog HH (n + 0)).2) 16 [.s (.one (.fr 1 [[.v (.int .i64 1)]])), .s (.one (.fr 1 [[.v (.int .i64 1)]])), .s (.one (.fr 6 y1.1)), .s (.one (.v (.int .i64 3))), .s (.one (.fr 6 [[.v (.int .i64 3), .v (.int .i64 4), .v (.int .i64 0), .v (.int .i64 0), .v (.int .i64 0), .v (.int .i64 0)]])), .s (.one (.v (.int .i64 1)))] [] outs16 mouts16 fun y3 m4 =>
    callT (w (lvlW w v symL Try.prog HH (n + 0)).2) 16 [.s (.one (.fr 1 [[.v (.int .i64 1)]])), .s (.one (.fr 1 [[.v (.int .i64 1)]])), .s (.one (.fr 6 y1.1)), .s (.one (.v (.int .i64 3))), .s (.one (.fr 6 [[.v (.int .i64 3), .v (.int .i64 4), .v (.int .i64 0), .v (.int .i64 0), .v (.int .i64 0), .v (.int .i64 0)]])), .s (.one (.v (.int .i64 0)))] [] outs16 mouts16 fun y5 m6 =>
    bif y3.2.1 then (
      bif y5.2.1 then (
        bif y3.1 == 0 then (
          bif y5.1 == (-1) then (
            callT (w (lvlW w v symL Try.prog HH (n + 0)).2) 17 [.s (.one (.fr 1 [[.v (.int .i64 1)]])), .s (.one (.fr 1 [[.v (.int .i64 1)]])), .s (.one (.fr 6 y1.1)), .s (.one (.v (.int .i64 3))), .s (.one (.fr 6 [[.v (.int .i64 3), .v (.int .i64 4), .v (.int .i64 0), .v (.int .i64 0), .v (.int .i64 0), .v (.int .i64 0)]])), .s (.one (.v (.int .i64 1)))] [] outs17 mouts17 fun y7 m8 =>
            some (.s (.one (.v (.bool y7.1))), []))
          else
          some (.s (.one (.v (.bool false))), []))
        else
        some (.s (.one (.v (.bool false))), []))
      else
      some (.s (.one (.v (.bool false))), []))
    else
    some (.s (.one (.v (.bool false))), []) := by kernel_rfl
theorem fn12 (n : Nat)  : (lvl Try.prog HH (n + 1)).2 12 [] [] =
    callT (lvl Try.prog HH (n + 0)).2 29 [.s (.one (.fr 3 [[.v (.int .i64 0), .v (.int .i64 0), .v (.int .i64 0)]]))] [] outs29 mouts29 fun y1 m2 =>
    callT (lvl Try.prog HH (n + 0)).2 16 [.s (.one (.fr 1 [[.v (.int .i64 1)]])), .s (.one (.fr 1 [[.v (.int .i64 1)]])), .s (.one (.fr 6 y1.1)), .s (.one (.v (.int .i64 3))), .s (.one (.fr 6 [[.v (.int .i64 3), .v (.int .i64 4), .v (.int .i64 0), .v (.int .i64 0), .v (.int .i64 0), .v (.int .i64 0)]])), .s (.one (.v (.int .i64 1)))] [] outs16 mouts16 fun y3 m4 =>
    callT (lvl Try.prog HH (n + 0)).2 16 [.s (.one (.fr 1 [[.v (.int .i64 1)]])), .s (.one (.fr 1 [[.v (.int .i64 1)]])), .s (.one (.fr 6 y1.1)), .s (.one (.v (.int .i64 3))), .s (.one (.fr 6 [[.v (.int .i64 3), .v (.int .i64 4), .v (.int .i64 0), .v (.int .i64 0), .v (.int .i64 0), .v (.int .i64 0)]])), .s (.one (.v (.int .i64 0)))] [] outs16 mouts16 fun y5 m6 =>
    bif y3.2.1 then (
      bif y5.2.1 then (
        bif y3.1 == 0 then (
          bif y5.1 == (-1) then (
            callT (lvl Try.prog HH (n + 0)).2 17 [.s (.one (.fr 1 [[.v (.int .i64 1)]])), .s (.one (.fr 1 [[.v (.int .i64 1)]])), .s (.one (.fr 6 y1.1)), .s (.one (.v (.int .i64 3))), .s (.one (.fr 6 [[.v (.int .i64 3), .v (.int .i64 4), .v (.int .i64 0), .v (.int .i64 0), .v (.int .i64 0), .v (.int .i64 0)]])), .s (.one (.v (.int .i64 1)))] [] outs17 mouts17 fun y7 m8 =>
            some (.s (.one (.v (.bool y7.1))), []))
          else
          some (.s (.one (.v (.bool false))), []))
        else
        some (.s (.one (.v (.bool false))), []))
      else
      some (.s (.one (.v (.bool false))), []))
    else
    some (.s (.one (.v (.bool false))), []) := by
  have h := fn12_w (fun x => x) (fun x => x) n 
  rw [lvlW_id] at h
  exact h

/-! armplan/armplanlaw16.radius -/
theorem fn14 (n : Nat) (r1 : Int) : (lvl Try.prog HH (n + 1)).2 14 [.s (.one (.v (.int .i64 r1)))] [] =
    letIn (Int.fdiv r1 4 : Int) fun n2 =>
    letIn (IntKind.wrap .i64 ((BitVec.ofInt 64 r1 &&& BitVec.ofInt 64 3).toNat : Nat) : Int) fun n3 =>
    bif (decide (0 ≤ n3)) && (decide (n3 < 4)) then (
      (nth ([.v (.int .i64 1), .v (.int .i64 30000), .v (.int .i64 200000), .v (.int .i64 1048577)] : List D1) (n3.toNat * 1)).bind fun d4 =>
      (asInt? .i64 d4).bind fun n5 =>
      callT (lvl Try.prog HH (n + 0)).2 19 [.s (.one (.v (.int .i64 n2))), .s (.one (.v (.int .i64 n5)))] [] outs19 mouts19 fun y6 m7 =>
      some (.s (.one (.v (.int .i64 y6.1))), []))
    else
    none := by kernel_rfl

/-! armplan/support.fits -/
theorem fn54 (n : Nat) (v1 : Int) (v2 : Int) (v3 : Int) : (lvl Try.prog HH (n + 5)).2 54 [.s (.agg true [.v (.int .i64 v1), .v (.int .i64 v2), .v (.int .i64 v3)])] [] =
    Option.bind (
      bif decide (v1 < (-16384)) then (
        some (.ret, encSt S54_0_r ((false, ()), ())))
      else
      bif decide (v1 > 16384) then (
        some (.ret, encSt S54_0_r ((false, ()), ())))
      else
      bif decide (v2 < (-16384)) then (
        some (.ret, encSt S54_0_r ((false, ()), ())))
      else
      bif decide (v2 > 16384) then (
        some (.ret, encSt S54_0_r ((false, ()), ())))
      else
      bif decide (v3 < (-16384)) then (
        some (.ret, encSt S54_0_r ((false, ()), ())))
      else
      bif decide (v3 > 16384) then (
        some (.ret, encSt S54_0_r ((false, ()), ())))
      else
      some (.exit 0, encSt S54_0_e0 ((), ()))) fun p4 =>
    bif sameEx (.ret) p4.1 then (decSt S54_0_r p4.2 fun x5 =>
      some (.s (.one (.v (.bool x5.1.1))), []))
    else
    bif sameEx (.exit 0) p4.1 then (decSt S54_0_e0 p4.2 fun x6 =>
      some (.s (.one (.v (.bool true))), []))
    else
    none := by kernel_rfl

/-! armplan/support.Usable -/
theorem fn47 (n : Nat) (n1 : Int) (n2 : Int) (n3 : Int) : (lvl Try.prog HH (n + 1)).2 47 [.s (.agg true [.v (.int .i64 n1), .v (.int .i64 n2), .v (.int .i64 n3)])] [] =
    callT (lvl Try.prog HH (n + 0)).2 54 [.s (.agg true [.v (.int .i64 n1), .v (.int .i64 n2), .v (.int .i64 n3)])] [] outs54 mouts54 fun y4 m5 =>
    bif y4.1 then (
      letIn (!((n1 == 0) && ((n2 == 0) && ((n3 == 0) && true))) : Bool) fun b6 =>
      some (.s (.one (.v (.bool b6))), []))
    else
    some (.s (.one (.v (.bool false))), []) := by kernel_rfl

/-! (armplan/plane.hull).usable -/
theorem fn48 (n : Nat) (h1 : List (List D1)) (h2 : Int) : (lvl Try.prog HH (n + 1)).2 48 [.s (.agg true [.fr 6 h1, .v (.int .i64 h2)])] [] =
    callT (lvl Try.prog HH (n + 0)).2 41 [.s (.one (.fr 6 h1))] [] outs41 mouts41 fun y3 m4 =>
    bif y3.1 then (
      bif decide (h2 ≥ 0) then (
        some (.s (.one (.v (.bool (decide (h2 ≤ 1048576))))), []))
      else
      some (.s (.one (.v (.bool false))), []))
    else
    some (.s (.one (.v (.bool false))), []) := by kernel_rfl

/-! armplan/support.dot -/
theorem fn56 (n : Nat) (n1 : Int) (n2 : Int) (n3 : Int) (v4 : Int) (v5 : Int) (v6 : Int) (v7 : Int) (v8 : Int) (v9 : Int) : (lvl Try.prog HH (n + 5)).2 56 [.s (.agg true [.v (.int .i64 n1), .v (.int .i64 n2), .v (.int .i64 n3)]), .s (.agg true [.v (.int .i64 v4), .v (.int .i64 v5), .v (.int .i64 v6), .v (.int .i64 v7), .v (.int .i64 v8), .v (.int .i64 v9)])] [] =
    letIn (IntKind.wrap .i64 (n1 * v4) : Int) fun n10 =>
    letIn (IntKind.wrap .i64 (n1 * v5) : Int) fun n11 =>
    letIn (if n11 < n10 then n11 else n10 : Int) fun n12 =>
    letIn (IntKind.wrap .i64 (0 + n12) : Int) fun n13 =>
    letIn (if n11 > n10 then n11 else n10 : Int) fun n14 =>
    letIn (IntKind.wrap .i64 (0 + n14) : Int) fun n15 =>
    letIn (IntKind.wrap .i64 (n2 * v6) : Int) fun n16 =>
    letIn (IntKind.wrap .i64 (n2 * v7) : Int) fun n17 =>
    letIn (if n17 < n16 then n17 else n16 : Int) fun n18 =>
    letIn (IntKind.wrap .i64 (n13 + n18) : Int) fun n19 =>
    letIn (if n17 > n16 then n17 else n16 : Int) fun n20 =>
    letIn (IntKind.wrap .i64 (n15 + n20) : Int) fun n21 =>
    letIn (IntKind.wrap .i64 (n3 * v8) : Int) fun n22 =>
    letIn (IntKind.wrap .i64 (n3 * v9) : Int) fun n23 =>
    letIn (if n23 < n22 then n23 else n22 : Int) fun n24 =>
    letIn (IntKind.wrap .i64 (n19 + n24) : Int) fun n25 =>
    letIn (if n23 > n22 then n23 else n22 : Int) fun n26 =>
    letIn (IntKind.wrap .i64 (n21 + n26) : Int) fun n27 =>
    some (.tup [.one (.v (.int .i64 n25)), .one (.v (.int .i64 n27))], []) := by kernel_rfl

/-! armplan/support.Least$1 -/
theorem fn55s0 (n : Nat) (v1 : Int) (v2 : Int) (v3 : Int) (v4 : Int) (v5 : Int) (v6 : Int) (c7 : Int) (c8 : Int) (c9 : Int) : (lvl Try.prog HH (n + 1)).2 55 [.s (.agg true [.v (.int .i64 v1), .v (.int .i64 v2), .v (.int .i64 v3), .v (.int .i64 v4), .v (.int .i64 v5), .v (.int .i64 v6)]), .s (.one (.ptr 0 0 0))] [.own 3 true [[.v (.int .i64 c7), .v (.int .i64 c8), .v (.int .i64 c9)]]] =
    callT (lvl Try.prog HH (n + 0)).2 56 [.s (.agg true [.v (.int .i64 c7), .v (.int .i64 c8), .v (.int .i64 c9)]), .s (.agg true [.v (.int .i64 v1), .v (.int .i64 v2), .v (.int .i64 v3), .v (.int .i64 v4), .v (.int .i64 v5), .v (.int .i64 v6)])] [] outs56 mouts56 fun y10 m11 =>
    some (.s (.one (.v (.int .i64 y10.1))), [.own 3 true [[.v (.int .i64 c7), .v (.int .i64 c8), .v (.int .i64 c9)]]]) := by kernel_rfl

/-! armplan/support.Least$2 -/
theorem fn57 (n : Nat) (x1 : Int) (y2 : Int) : (lvl Try.prog HH (n + 1)).2 57 [.s (.one (.v (.int .i64 x1))), .s (.one (.v (.int .i64 y2)))] [] =
    some (.s (.one (.v (.bool (decide (x1 < y2))))), []) := by kernel_rfl

/-! (armplan/support.search).first -/
theorem loop58s0_0 (n : Nat) (v9 : Int) (v10 : Int) (v11 : List (List D1)) (v12 : Int) (v13 : Int) (c14 : Int) (c15 : Int) (c16 : Int) : (lvl Try.prog HH (n + 1)).1 ⟨58, 1, true⟩ 0 (loopOf Try.f58 0) (encSt S58s0_0 (((), v9, v10, v11, v12, v13, ()), ((c14, c15, c16, ()), ((.clo 55 [.ptr 0 0 0]), (.v (.func (.func 57) #[] #[])), ()), ()))) =
    bif decide (v13 < v12) then (
      bif decide (0 ≤ v13) then (
        (nth v11 v13.toNat).bind fun cs17 =>
        bif Nat.beq ((cs17.drop 0).take 6).length 6 then (
          decCts [.int .i64, .int .i64, .int .i64, .int .i64, .int .i64, .int .i64] ((cs17.drop 0).take 6) fun c18 =>
          callT (lvl Try.prog HH (n + 0)).2 55 [.s (.agg true [.v (.int .i64 c18.1), .v (.int .i64 c18.2.1), .v (.int .i64 c18.2.2.1), .v (.int .i64 c18.2.2.2.1), .v (.int .i64 c18.2.2.2.2.1), .v (.int .i64 c18.2.2.2.2.2.1)]), .s (.one (.ptr 0 0 0))] [.own 3 true [[.v (.int .i64 c14), .v (.int .i64 c15), .v (.int .i64 c16)]]] outs55 mouts55 fun y19 m20 =>
          callT (lvl Try.prog HH (n + 0)).2 57 [.s (.one (.v (.int .i64 y19.1))), .s (.one (.v (.int .i64 v9)))] [] outs57 mouts57 fun y21 m22 =>
          bif y21.1 then (
            letIn (IntKind.wrap .i64 (v13 + 1) : Int) fun n23 =>
            (lvl Try.prog HH (n + 0)).1 ⟨58, 1, true⟩ 0 (loopOf Try.f58 0) (encSt S58s0_0 (((), y19.1, v13, v11, v12, n23, ()), ((c14, c15, c16, ()), ((.clo 55 [.ptr 0 0 0]), (.v (.func (.func 57) #[] #[])), ()), ()))))
          else
          letIn (IntKind.wrap .i64 (v13 + 1) : Int) fun n24 =>
          (lvl Try.prog HH (n + 0)).1 ⟨58, 1, true⟩ 0 (loopOf Try.f58 0) (encSt S58s0_0 (((), v9, v10, v11, v12, n24, ()), ((c14, c15, c16, ()), ((.clo 55 [.ptr 0 0 0]), (.v (.func (.func 57) #[] #[])), ()), ()))))
        else
        none)
      else
      none)
    else
    some (.exit 0, encSt S58s0_0_e0 ((v9, v10, ()), ((c14, c15, c16, ()), ()))) := by kernel_rfl

theorem fn58s0 (n : Nat) (l1 : List (List D1)) (c2 : Int) (c3 : Int) (c4 : Int) : (lvl Try.prog HH (n + 1)).2 58 [.s (.agg false [.clo 55 [.ptr 0 0 0], .v (.func (.func 57) #[] #[])]), .s (.one (.fr 6 l1))] [.own 3 true [[.v (.int .i64 c2), .v (.int .i64 c3), .v (.int .i64 c4)]]] =
    (nth l1 0).bind fun cs5 =>
    bif Nat.beq ((cs5.drop 0).take 6).length 6 then (
      decCts [.int .i64, .int .i64, .int .i64, .int .i64, .int .i64, .int .i64] ((cs5.drop 0).take 6) fun c6 =>
      callT (lvl Try.prog HH (n + 0)).2 55 [.s (.agg true [.v (.int .i64 c6.1), .v (.int .i64 c6.2.1), .v (.int .i64 c6.2.2.1), .v (.int .i64 c6.2.2.2.1), .v (.int .i64 c6.2.2.2.2.1), .v (.int .i64 c6.2.2.2.2.2.1)]), .s (.one (.ptr 0 0 0))] [.own 3 true [[.v (.int .i64 c2), .v (.int .i64 c3), .v (.int .i64 c4)]]] outs55 mouts55 fun y7 m8 =>
      ((lvl Try.prog HH (n + 0)).1 ⟨58, 1, true⟩ 0 (loopOf Try.f58 0) (encSt S58s0_0 (((), y7.1, 0, l1, (((l1.length : Nat) : Int)), 0, ()), ((c2, c3, c4, ()), ((.clo 55 [.ptr 0 0 0]), (.v (.func (.func 57) #[] #[])), ()), ())))).bind fun p25 =>
      bif sameEx (.exit 0) p25.1 then (decSt S58s0_0_e0 p25.2 fun x26 =>
        some (.tup [.one (.v (.int .i64 x26.1.1)), .one (.v (.int .i64 x26.1.2.1))], [.own 3 true [[.v (.int .i64 x26.2.1.1), .v (.int .i64 x26.2.1.2.1), .v (.int .i64 x26.2.1.2.2.1)]]]))
      else
      none)
    else
    none := by kernel_rfl

end Go.Proofs.Ytilffjjibcebmaa.Am
