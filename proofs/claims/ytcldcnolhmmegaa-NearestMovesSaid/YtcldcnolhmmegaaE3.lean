/- PRINTED by amprint.py: what the abstract machine answers, function by function. -/
import Derived.Test.YtcldcnolhmmegaaH
import Derived.KernelRfl
set_option linter.unusedVariables false
set_option maxRecDepth 100000
namespace Go.Proofs.Ytcldcnolhmmegaa.Am
open Go Go.Proofs

/-! armplan/nearest.Search -/
theorem loop14_0 (n : Nat) (v15 : Int) (v16 : Bool) (c17 : Int) (c18 : Int) (c19 : Int) (c20 : Int) (c21 : D1) (c22 : D1) (c23 : Int) (c24 : List (List D1)) (c25 : List (List D1)) (c26 : Int) (c27 : Int) (c28 : Int) (c29 : Int) (c30 : Int) (c31 : Int) (es32 : List (List D1)) (es33 : List (List D1)) : (lvl Try.prog HH (n + 1)).1 ⟨14, 0, true⟩ 0 (loopOf Try.f14 0) (encSt S14_0 (((), (), v15, v16, ()), ((c17, c18, c19, c20, c21, c22, c23, ()), ((), (), c24, c25, c26, c27, c28, c29, c30, c31, ()), es32, es33, ()))) =
    bif !v16 then (
      callT (lvl Try.prog HH (n + 0)).2 28 [.s (.one (.ptr 0 0 0))] [.own 10 false [[.fs 1, .fs 2, .fr 3 c24, .fr 3 c25, .v (.int .i64 c26), .v (.int .i64 c27), .v (.int .i64 c28), .v (.int .i64 c29), .v (.int .i64 c30), .v (.int .i64 c31)]], .own 1 true es32, .own 1 true es33] outs28 mouts28 fun y34 m35 =>
      (lvl Try.prog HH (n + 0)).1 ⟨14, 0, true⟩ 0 (loopOf Try.f14 0) (encSt S14_0 (((), (), y34.1, y34.2.1, ()), ((c17, c18, c19, c20, (c21), (c22), c23, ()), ((), (), m35.1.2.2.1, m35.1.2.2.2.1, m35.1.2.2.2.2.1, m35.1.2.2.2.2.2.1, m35.1.2.2.2.2.2.2.1, m35.1.2.2.2.2.2.2.2.1, m35.1.2.2.2.2.2.2.2.2.1, m35.1.2.2.2.2.2.2.2.2.2.1, ()), m35.2.1, m35.2.2.1, ()))))
    else
    some (.exit 0, encSt S14_0_e0 (((), (), v15, ()), ((c17, c18, c19, c20, (c21), (c22), c23, ()), ((), (), c24, c25, c26, c27, c28, c29, c30, c31, ()), es32, es33, ()))) := by kernel_rfl

theorem fn14_w (w : CallF → CallF) (v : LoopF → LoopF) (n : Nat) (a1 : List (List D1)) (b2 : List (List D1)) (rho3 : Int) (steps4 : Int) : (lvlW w v symL Try.prog HH (n + 1)).2 14 [.s (.one (.fr 3 a1)), .s (.one (.fr 3 b2)), .s (.one (.v (.int .i64 rho3))), .s (.one (.v (.int .i64 steps4)))] [] =
    callT (w (lvlW w v symL Try.prog HH (n + 0)).2) 26 [.s (.one (.fr 3 a1))] [] outs26 mouts26 fun y5 m6 =>
    bif !y5.1 then (
      some (.s (.agg true [.v (.int .i64 0), .v (.int .i64 0), .v (.int .i64 0), .v (.int .i64 0), .fr 1 [], .fr 1 [], .v (.int .i64 0)]), []))
    else
    callT (w (lvlW w v symL Try.prog HH (n + 0)).2) 26 [.s (.one (.fr 3 b2))] [] outs26 mouts26 fun y7 m8 =>
    bif !y7.1 then (
      some (.s (.agg true [.v (.int .i64 0), .v (.int .i64 0), .v (.int .i64 0), .v (.int .i64 0), .fr 1 [], .fr 1 [], .v (.int .i64 0)]), []))
    else
    bif decide (rho3 < 0) then (
      some (.s (.agg true [.v (.int .i64 0), .v (.int .i64 0), .v (.int .i64 0), .v (.int .i64 0), .fr 1 [], .fr 1 [], .v (.int .i64 0)]), []))
    else
    bif decide (rho3 > 2097152) then (
      some (.s (.agg true [.v (.int .i64 0), .v (.int .i64 0), .v (.int .i64 0), .v (.int .i64 0), .fr 1 [], .fr 1 [], .v (.int .i64 0)]), []))
    else
    bif decide (steps4 < 0) then (
      some (.s (.agg true [.v (.int .i64 0), .v (.int .i64 0), .v (.int .i64 0), .v (.int .i64 0), .fr 1 [], .fr 1 [], .v (.int .i64 0)]), []))
    else
    bif decide (steps4 > 64) then (
      some (.s (.agg true [.v (.int .i64 0), .v (.int .i64 0), .v (.int .i64 0), .v (.int .i64 0), .fr 1 [], .fr 1 [], .v (.int .i64 0)]), []))
    else
    callT (w (lvlW w v symL Try.prog HH (n + 0)).2) 27 [.s (.one (.v (.int .i64 (((a1.length : Nat) : Int)))))] [] outs27 mouts27 fun y9 m10 =>
    callT (w (lvlW w v symL Try.prog HH (n + 0)).2) 27 [.s (.one (.v (.int .i64 (((b2.length : Nat) : Int)))))] [] outs27 mouts27 fun y11 m12 =>
    callT (w (lvlW w v symL Try.prog HH (n + 0)).2) 28 [.s (.one (.ptr 0 0 0))] [.own 10 false [[.fs 1, .fs 2, .fr 3 a1, .fr 3 b2, .v (.int .i64 rho3), .v (.int .i64 steps4), .v (.int .i64 0), .v (.int .i64 0), .v (.int .i64 0), .v (.int .i64 0)]], .own 1 true m10.1, .own 1 true m12.1] outs28 mouts28 fun y13 m14 =>
    (v (lvlW w v symL Try.prog HH (n + 0)).1 ⟨14, 0, true⟩ 0 (loopOf Try.f14 0) (encSt S14_0 (((), (), y13.1, y13.2.1, ()), ((0, 0, 0, 0, (.v (.slice none 0 0)), (.v (.slice none 0 0)), 0, ()), ((), (), m14.1.2.2.1, m14.1.2.2.2.1, m14.1.2.2.2.2.1, m14.1.2.2.2.2.2.1, m14.1.2.2.2.2.2.2.1, m14.1.2.2.2.2.2.2.2.1, m14.1.2.2.2.2.2.2.2.2.1, m14.1.2.2.2.2.2.2.2.2.2.1, ()), m14.2.1, m14.2.2.1, ())))).bind fun p36 =>
    bif sameEx (.exit 0) p36.1 then (decSt S14_0_e0 p36.2 fun x37 =>
      some (.s (.agg true [.v (.int .i64 x37.1.2.2.1), .v (.int .i64 x37.2.2.1.2.2.2.2.2.2.2.1), .v (.int .i64 x37.2.2.1.2.2.2.2.2.2.2.2.1), .v (.int .i64 x37.2.2.1.2.2.2.2.2.2.2.2.2.1), .fr 1 x37.2.2.2.1, .fr 1 x37.2.2.2.2.1, .v (.int .i64 x37.2.2.1.2.2.2.2.2.2.1)]), []))
    else
    none := by kernel_rfl
theorem fn14 (n : Nat) (a1 : List (List D1)) (b2 : List (List D1)) (rho3 : Int) (steps4 : Int) : (lvl Try.prog HH (n + 1)).2 14 [.s (.one (.fr 3 a1)), .s (.one (.fr 3 b2)), .s (.one (.v (.int .i64 rho3))), .s (.one (.v (.int .i64 steps4)))] [] =
    callT (lvl Try.prog HH (n + 0)).2 26 [.s (.one (.fr 3 a1))] [] outs26 mouts26 fun y5 m6 =>
    bif !y5.1 then (
      some (.s (.agg true [.v (.int .i64 0), .v (.int .i64 0), .v (.int .i64 0), .v (.int .i64 0), .fr 1 [], .fr 1 [], .v (.int .i64 0)]), []))
    else
    callT (lvl Try.prog HH (n + 0)).2 26 [.s (.one (.fr 3 b2))] [] outs26 mouts26 fun y7 m8 =>
    bif !y7.1 then (
      some (.s (.agg true [.v (.int .i64 0), .v (.int .i64 0), .v (.int .i64 0), .v (.int .i64 0), .fr 1 [], .fr 1 [], .v (.int .i64 0)]), []))
    else
    bif decide (rho3 < 0) then (
      some (.s (.agg true [.v (.int .i64 0), .v (.int .i64 0), .v (.int .i64 0), .v (.int .i64 0), .fr 1 [], .fr 1 [], .v (.int .i64 0)]), []))
    else
    bif decide (rho3 > 2097152) then (
      some (.s (.agg true [.v (.int .i64 0), .v (.int .i64 0), .v (.int .i64 0), .v (.int .i64 0), .fr 1 [], .fr 1 [], .v (.int .i64 0)]), []))
    else
    bif decide (steps4 < 0) then (
      some (.s (.agg true [.v (.int .i64 0), .v (.int .i64 0), .v (.int .i64 0), .v (.int .i64 0), .fr 1 [], .fr 1 [], .v (.int .i64 0)]), []))
    else
    bif decide (steps4 > 64) then (
      some (.s (.agg true [.v (.int .i64 0), .v (.int .i64 0), .v (.int .i64 0), .v (.int .i64 0), .fr 1 [], .fr 1 [], .v (.int .i64 0)]), []))
    else
    callT (lvl Try.prog HH (n + 0)).2 27 [.s (.one (.v (.int .i64 (((a1.length : Nat) : Int)))))] [] outs27 mouts27 fun y9 m10 =>
    callT (lvl Try.prog HH (n + 0)).2 27 [.s (.one (.v (.int .i64 (((b2.length : Nat) : Int)))))] [] outs27 mouts27 fun y11 m12 =>
    callT (lvl Try.prog HH (n + 0)).2 28 [.s (.one (.ptr 0 0 0))] [.own 10 false [[.fs 1, .fs 2, .fr 3 a1, .fr 3 b2, .v (.int .i64 rho3), .v (.int .i64 steps4), .v (.int .i64 0), .v (.int .i64 0), .v (.int .i64 0), .v (.int .i64 0)]], .own 1 true m10.1, .own 1 true m12.1] outs28 mouts28 fun y13 m14 =>
    ((lvl Try.prog HH (n + 0)).1 ⟨14, 0, true⟩ 0 (loopOf Try.f14 0) (encSt S14_0 (((), (), y13.1, y13.2.1, ()), ((0, 0, 0, 0, (.v (.slice none 0 0)), (.v (.slice none 0 0)), 0, ()), ((), (), m14.1.2.2.1, m14.1.2.2.2.1, m14.1.2.2.2.2.1, m14.1.2.2.2.2.2.1, m14.1.2.2.2.2.2.2.1, m14.1.2.2.2.2.2.2.2.1, m14.1.2.2.2.2.2.2.2.2.1, m14.1.2.2.2.2.2.2.2.2.2.1, ()), m14.2.1, m14.2.2.1, ())))).bind fun p36 =>
    bif sameEx (.exit 0) p36.1 then (decSt S14_0_e0 p36.2 fun x37 =>
      some (.s (.agg true [.v (.int .i64 x37.1.2.2.1), .v (.int .i64 x37.2.2.1.2.2.2.2.2.2.2.1), .v (.int .i64 x37.2.2.1.2.2.2.2.2.2.2.2.1), .v (.int .i64 x37.2.2.1.2.2.2.2.2.2.2.2.2.1), .fr 1 x37.2.2.2.1, .fr 1 x37.2.2.2.2.1, .v (.int .i64 x37.2.2.1.2.2.2.2.2.2.1)]), []))
    else
    none := by
  have h := fn14_w (fun x => x) (fun x => x) n a1 b2 rho3 steps4
  rw [lvlW_id] at h
  exact h

/-! armplan/armplanlaw14.awake -/
theorem fn12 (n : Nat)  : (lvl Try.prog HH (n + 1)).2 12 [] [] =
    callT (lvl Try.prog HH (n + 0)).2 14 [.s (.one (.fr 3 [[.v (.int .i64 0), .v (.int .i64 0), .v (.int .i64 0)]])), .s (.one (.fr 3 [[.v (.int .i64 10), .v (.int .i64 0), .v (.int .i64 0)]])), .s (.one (.v (.int .i64 3))), .s (.one (.v (.int .i64 5)))] [] outs14 mouts14 fun y1 m2 =>
    callT (lvl Try.prog HH (n + 0)).2 14 [.s (.one (.fr 3 [[.v (.int .i64 0), .v (.int .i64 0), .v (.int .i64 0)]])), .s (.one (.fr 3 [[.v (.int .i64 10), .v (.int .i64 0), .v (.int .i64 0)]])), .s (.one (.v (.int .i64 10))), .s (.one (.v (.int .i64 5)))] [] outs14 mouts14 fun y3 m4 =>
    bif y1.1.1 == 1 then (
      letIn ((y1.1.2.1 == (-10)) && ((y1.1.2.2.1 == 0) && ((y1.1.2.2.2.1 == 0) && true)) : Bool) fun b5 =>
      bif b5 then (
        some (.s (.one (.v (.bool (y3.1.1 == 2)))), []))
      else
      some (.s (.one (.v (.bool false))), []))
    else
    some (.s (.one (.v (.bool false))), []) := by kernel_rfl

/-! armplan/armplanlaw14.moved -/
theorem loop22_0 (n : Nat) (v5 : List (List D1)) (v6 : Int) (c7 : Int) (c8 : Int) (c9 : Int) (es10 : List (List D1)) : (lvl Try.prog HH (n + 1)).1 ⟨22, 0, true⟩ 0 (loopOf Try.f22 0) (encSt S22_0 ((v5, (), (), v6, ()), ((c7, c8, c9, ()), es10, ()))) =
    bif decide (v6 < (((v5.length : Nat) : Int))) then (
      bif decide (0 ≤ v6) then (
        (nth v5 v6.toNat).bind fun cs11 =>
        (nth (cs11.drop 0) 0).bind fun d12 =>
        (asInt? .i64 d12).bind fun n13 =>
        letIn (IntKind.wrap .i64 (n13 + c7) : Int) fun n14 =>
        bif decide (0 ≤ v6) then (
          (nth v5 v6.toNat).bind fun cs15 =>
          (nth (cs15.drop 1) 0).bind fun d16 =>
          (asInt? .i64 d16).bind fun n17 =>
          letIn (IntKind.wrap .i64 (n17 + c8) : Int) fun n18 =>
          bif decide (0 ≤ v6) then (
            (nth v5 v6.toNat).bind fun cs19 =>
            (nth (cs19.drop 2) 0).bind fun d20 =>
            (asInt? .i64 d20).bind fun n21 =>
            letIn (IntKind.wrap .i64 (n21 + c9) : Int) fun n22 =>
            bif decide ((es10.length + 1) * 24 ≤ 140737488355328) then (
              letIn (IntKind.wrap .i64 (v6 + 1) : Int) fun n23 =>
              (lvl Try.prog HH (n + 0)).1 ⟨22, 0, true⟩ 0 (loopOf Try.f22 0) (encSt S22_0 ((v5, (), (), n23, ()), ((c7, c8, c9, ()), (es10 ++ ([[.v (.int .i64 n14), .v (.int .i64 n18), .v (.int .i64 n22)]] : List (List D1))), ()))))
            else
            none)
          else
          none)
        else
        none)
      else
      none)
    else
    some (.exit 0, encSt S22_0_e0 (((), ()), (es10, ()))) := by kernel_rfl

theorem fn22 (n : Nat) (l1 : List (List D1)) (t2 : Int) (t3 : Int) (t4 : Int) : (lvl Try.prog HH (n + 1)).2 22 [.s (.one (.fr 3 l1)), .s (.agg true [.v (.int .i64 t2), .v (.int .i64 t3), .v (.int .i64 t4)])] [] =
    ((lvl Try.prog HH (n + 0)).1 ⟨22, 0, true⟩ 0 (loopOf Try.f22 0) (encSt S22_0 ((l1, (), (), 0, ()), ((t2, t3, t4, ()), [], ())))).bind fun p24 =>
    bif sameEx (.exit 0) p24.1 then (decSt S22_0_e0 p24.2 fun x25 =>
      some (.s (.one (.fr 3 x25.2.1)), []))
    else
    none := by kernel_rfl

/-! armplan/armplanmake.Same[int64] -/
theorem loop36_0 (n : Nat) (v3 : List (List D1)) (v4 : List (List D1)) (v5 : Int) : (lvl Try.prog HH (n + 1)).1 ⟨36, 0, true⟩ 0 (loopOf Try.f36 0) (encSt S36_0 ((v3, v4, v5, ()), ())) =
    bif decide (v5 < (((v3.length : Nat) : Int))) then (
      bif decide (0 ≤ v5) then (
        (nth v3 v5.toNat).bind fun cs6 =>
        (nth cs6 0).bind fun d7 =>
        (asInt? .i64 d7).bind fun n8 =>
        bif decide (0 ≤ v5) then (
          (nth v4 v5.toNat).bind fun cs9 =>
          (nth cs9 0).bind fun d10 =>
          (asInt? .i64 d10).bind fun n11 =>
          bif n8 != n11 then (
            some (.ret, encSt S36_0_r ((false, ()), ())))
          else
          letIn (IntKind.wrap .i64 (v5 + 1) : Int) fun n12 =>
          (lvl Try.prog HH (n + 0)).1 ⟨36, 0, true⟩ 0 (loopOf Try.f36 0) (encSt S36_0 ((v3, v4, n12, ()), ())))
        else
        none)
      else
      none)
    else
    some (.exit 0, encSt S36_0_e0 ((), ())) := by kernel_rfl

theorem fn36 (n : Nat) (a1 : List (List D1)) (b2 : List (List D1)) : (lvl Try.prog HH (n + 1)).2 36 [.s (.one (.fr 1 a1)), .s (.one (.fr 1 b2))] [] =
    bif (((a1.length : Nat) : Int)) != (((b2.length : Nat) : Int)) then (
      some (.s (.one (.v (.bool false))), []))
    else
    ((lvl Try.prog HH (n + 0)).1 ⟨36, 0, true⟩ 0 (loopOf Try.f36 0) (encSt S36_0 ((a1, b2, 0, ()), ()))).bind fun p13 =>
    bif sameEx (.ret) p13.1 then (decSt S36_0_r p13.2 fun x14 =>
      some (.s (.one (.v (.bool x14.1.1))), []))
    else
    bif sameEx (.exit 0) p13.1 then (decSt S36_0_e0 p13.2 fun x15 =>
      some (.s (.one (.v (.bool true))), []))
    else
    none := by kernel_rfl

/-! armplan/armplanmake.SameNearest -/
theorem fn21 (n : Nat) (a1 : Int) (a2 : Int) (a3 : Int) (a4 : Int) (a5 : List (List D1)) (a6 : List (List D1)) (a7 : Int) (b8 : Int) (b9 : Int) (b10 : Int) (b11 : Int) (b12 : List (List D1)) (b13 : List (List D1)) (b14 : Int) : (lvl Try.prog HH (n + 1)).2 21 [.s (.agg true [.v (.int .i64 a1), .v (.int .i64 a2), .v (.int .i64 a3), .v (.int .i64 a4), .fr 1 a5, .fr 1 a6, .v (.int .i64 a7)]), .s (.agg true [.v (.int .i64 b8), .v (.int .i64 b9), .v (.int .i64 b10), .v (.int .i64 b11), .fr 1 b12, .fr 1 b13, .v (.int .i64 b14)])] [] =
    bif a1 == b8 then (
      letIn ((a2 == b9) && ((a3 == b10) && ((a4 == b11) && true)) : Bool) fun b15 =>
      bif b15 then (
        bif a7 == b14 then (
          callT (lvl Try.prog HH (n + 0)).2 36 [.s (.one (.fr 1 a5)), .s (.one (.fr 1 b12))] [] outs36 mouts36 fun y16 m17 =>
          bif y16.1 then (
            callT (lvl Try.prog HH (n + 0)).2 36 [.s (.one (.fr 1 a6)), .s (.one (.fr 1 b13))] [] outs36 mouts36 fun y18 m19 =>
            some (.s (.one (.v (.bool y18.1))), []))
          else
          some (.s (.one (.v (.bool false))), []))
        else
        some (.s (.one (.v (.bool false))), []))
      else
      some (.s (.one (.v (.bool false))), []))
    else
    some (.s (.one (.v (.bool false))), []) := by kernel_rfl

/-! armplan/armplanlaw14.NearestMoves -/
theorem fn8_w (w : CallF → CallF) (v : LoopF → LoopF) (n : Nat) (l1 : List (List D1)) (m2 : List (List D1)) (rho3 : Int) (t4 : Int) (t5 : Int) (t6 : Int) : (lvlW w v symL Try.prog HH (n + 1)).2 8 [.s (.one (.fr 1 l1)), .s (.one (.fr 1 m2)), .s (.one (.v (.int .i64 rho3))), .s (.agg true [.v (.int .i64 t4), .v (.int .i64 t5), .v (.int .i64 t6)])] [] =
    callT (w (lvlW w v symL Try.prog HH (n + 0)).2) 10 [.s (.one (.fr 1 l1)), .s (.one (.fr 1 m2)), .s (.one (.v (.int .i64 rho3)))] [] outs10 mouts10 fun y7 m8 =>
    letIn (Int.fdiv t4 4398046511104 : Int) fun n9 =>
    letIn (Int.fdiv t5 4398046511104 : Int) fun n10 =>
    letIn (Int.fdiv t6 4398046511104 : Int) fun n11 =>
    callT (w (lvlW w v symL Try.prog HH (n + 0)).2) 12 [] [] outs12 mouts12 fun y12 m13 =>
    bif y12.1 then (
      callT (w (lvlW w v symL Try.prog HH (n + 0)).2) 14 [.s (.one (.fr 3 y7.1)), .s (.one (.fr 3 y7.2.1)), .s (.one (.v (.int .i64 y7.2.2.1))), .s (.one (.v (.int .i64 64)))] [] outs14 mouts14 fun y14 m15 =>
      callT (w (lvlW w v symL Try.prog HH (n + 0)).2) 22 [.s (.one (.fr 3 y7.1)), .s (.agg true [.v (.int .i64 n9), .v (.int .i64 n10), .v (.int .i64 n11)])] [] outs22 mouts22 fun y16 m17 =>
      callT (w (lvlW w v symL Try.prog HH (n + 0)).2) 22 [.s (.one (.fr 3 y7.2.1)), .s (.agg true [.v (.int .i64 n9), .v (.int .i64 n10), .v (.int .i64 n11)])] [] outs22 mouts22 fun y18 m19 =>
      callT (w (lvlW w v symL Try.prog HH (n + 0)).2) 14 [.s (.one (.fr 3 y16.1)), .s (.one (.fr 3 y18.1)), .s (.one (.v (.int .i64 y7.2.2.1))), .s (.one (.v (.int .i64 64)))] [] outs14 mouts14 fun y20 m21 =>
      callT (w (lvlW w v symL Try.prog HH (n + 0)).2) 21 [.s (.agg true [.v (.int .i64 y14.1.1), .v (.int .i64 y14.1.2.1), .v (.int .i64 y14.1.2.2.1), .v (.int .i64 y14.1.2.2.2.1), .fr 1 y14.1.2.2.2.2.1, .fr 1 y14.1.2.2.2.2.2.1, .v (.int .i64 y14.1.2.2.2.2.2.2.1)]), .s (.agg true [.v (.int .i64 y20.1.1), .v (.int .i64 y20.1.2.1), .v (.int .i64 y20.1.2.2.1), .v (.int .i64 y20.1.2.2.2.1), .fr 1 y20.1.2.2.2.2.1, .fr 1 y20.1.2.2.2.2.2.1, .v (.int .i64 y20.1.2.2.2.2.2.2.1)])] [] outs21 mouts21 fun y22 m23 =>
      some (.s (.one (.v (.bool y22.1))), []))
    else
    some (.s (.one (.v (.bool false))), []) := by kernel_rfl
theorem fn8 (n : Nat) (l1 : List (List D1)) (m2 : List (List D1)) (rho3 : Int) (t4 : Int) (t5 : Int) (t6 : Int) : (lvl Try.prog HH (n + 1)).2 8 [.s (.one (.fr 1 l1)), .s (.one (.fr 1 m2)), .s (.one (.v (.int .i64 rho3))), .s (.agg true [.v (.int .i64 t4), .v (.int .i64 t5), .v (.int .i64 t6)])] [] =
    callT (lvl Try.prog HH (n + 0)).2 10 [.s (.one (.fr 1 l1)), .s (.one (.fr 1 m2)), .s (.one (.v (.int .i64 rho3)))] [] outs10 mouts10 fun y7 m8 =>
    letIn (Int.fdiv t4 4398046511104 : Int) fun n9 =>
    letIn (Int.fdiv t5 4398046511104 : Int) fun n10 =>
    letIn (Int.fdiv t6 4398046511104 : Int) fun n11 =>
    callT (lvl Try.prog HH (n + 0)).2 12 [] [] outs12 mouts12 fun y12 m13 =>
    bif y12.1 then (
      callT (lvl Try.prog HH (n + 0)).2 14 [.s (.one (.fr 3 y7.1)), .s (.one (.fr 3 y7.2.1)), .s (.one (.v (.int .i64 y7.2.2.1))), .s (.one (.v (.int .i64 64)))] [] outs14 mouts14 fun y14 m15 =>
      callT (lvl Try.prog HH (n + 0)).2 22 [.s (.one (.fr 3 y7.1)), .s (.agg true [.v (.int .i64 n9), .v (.int .i64 n10), .v (.int .i64 n11)])] [] outs22 mouts22 fun y16 m17 =>
      callT (lvl Try.prog HH (n + 0)).2 22 [.s (.one (.fr 3 y7.2.1)), .s (.agg true [.v (.int .i64 n9), .v (.int .i64 n10), .v (.int .i64 n11)])] [] outs22 mouts22 fun y18 m19 =>
      callT (lvl Try.prog HH (n + 0)).2 14 [.s (.one (.fr 3 y16.1)), .s (.one (.fr 3 y18.1)), .s (.one (.v (.int .i64 y7.2.2.1))), .s (.one (.v (.int .i64 64)))] [] outs14 mouts14 fun y20 m21 =>
      callT (lvl Try.prog HH (n + 0)).2 21 [.s (.agg true [.v (.int .i64 y14.1.1), .v (.int .i64 y14.1.2.1), .v (.int .i64 y14.1.2.2.1), .v (.int .i64 y14.1.2.2.2.1), .fr 1 y14.1.2.2.2.2.1, .fr 1 y14.1.2.2.2.2.2.1, .v (.int .i64 y14.1.2.2.2.2.2.2.1)]), .s (.agg true [.v (.int .i64 y20.1.1), .v (.int .i64 y20.1.2.1), .v (.int .i64 y20.1.2.2.1), .v (.int .i64 y20.1.2.2.2.1), .fr 1 y20.1.2.2.2.2.1, .fr 1 y20.1.2.2.2.2.2.1, .v (.int .i64 y20.1.2.2.2.2.2.2.1)])] [] outs21 mouts21 fun y22 m23 =>
      some (.s (.one (.v (.bool y22.1))), []))
    else
    some (.s (.one (.v (.bool false))), []) := by
  have h := fn8_w (fun x => x) (fun x => x) n l1 m2 rho3 t4 t5 t6
  rw [lvlW_id] at h
  exact h

end Go.Proofs.Ytcldcnolhmmegaa.Am
