/- PRINTED by amprint.py: what the abstract machine answers, function by function. -/
import Derived.Test.YtcldcnolhmmegaaH
import Derived.KernelRfl
set_option linter.unusedVariables false
set_option maxRecDepth 100000
namespace Go.Proofs.Ytcldcnolhmmegaa.Am
open Go Go.Proofs

/-! armplan/nearest.Search -/
theorem loop14_0 (n : Nat) (v15 : Int) (v16 : Bool) (c17 : Int) (c18 : Int) (c19 : Int) (c20 : Int) (c21 : D1) (c22 : D1) (c23 : Int) (c24 : List (List D1)) (c25 : List (List D1)) (c26 : Int) (c27 : Int) (c28 : Int) (c29 : Int) (c30 : Int) (c31 : Int) (es32 : List (List D1)) (es33 : List (List D1)) : (lvl Try.prog HH (n + 1)).1 ⟨14, 0, true⟩ 0 (loopOf Try.f14 0) (encSt S14_0 (((), (), v15, v16, ()), ((c17, c18, c19, c20, c21, c22, c23, ()), ((), (), c24, c25, c26, c27, c28, c29, c30, c31, ()), es32, es33, ()))) =
    bif !v16 then (
      callT (lvl Try.prog HH (n + 0)).2 28 [.s (.one (.ptr 0 0 0))] [.own 10 false [[.fs 1, .fs 2, .fr 3 c24, .fr 3 c25, .v (.int .i64 c26), .v (.int .i64 c27), .v (.int .i64 c28), .v (.int .i64 c29), .v (.int .i64 c30), .v (.int .i64 c31)]], .own 1 true es32, .own 1 true es33] outs28 mouts28 fun y34 m35 =>
      (lvl Try.prog HH (n + 0)).1 ⟨14, 0, true⟩ 0 (loopOf Try.f14 0) (encSt S14_0 (((), (), y34.1, y34.2.1, ()), ((c17, c18, c19, c20, (c21), (c22), c23, ()), ((), (), m35.1.2.2.1, m35.1.2.2.2.1, m35.1.2.2.2.2.1, m35.1.2.2.2.2.2.1, m35.1.2.2.2.2.2.2.1, m35.1.2.2.2.2.2.2.2.1, m35.1.2.2.2.2.2.2.2.2.1, m35.1.2.2.2.2.2.2.2.2.2.1, ()), m35.2.1, m35.2.2.1, ()))))
    else
    some (.exit 0, encSt S14_0_e0 (((), (), v15, ()), ((c17, c18, c19, c20, (c21), (c22), c23, ()), ((), (), c24, c25, c26, c27, c28, c29, c30, c31, ()), es32, es33, ()))) := by kernel_rfl

theorem fn14_w (w : CallF → CallF) (v : LoopF → LoopF) (n : Nat) (a1 : List (List D1)) (b2 : List (List D1)) (rho3 : Int) (steps4 : Int) : (lvlW w v symL Try.prog HH (n + 1)).2 14 [.s (.one (.fr 3 a1)), .s (.one (.fr 3 b2)), .s (.one (.v (.int .i64 rho3))), .s (.one (.v (.int .i64 steps4)))] [] =
    callT (w (lvlW w v symL Try.prog HH (n + 0)).2) 26 [.s (.one (.fr 3 a1))] [] outs26 mouts26 fun y5 m6 =>
    bif !y5.1 then (
      some (.s (.agg true [.v (.int .i64 0), .v (.int .i64 0), .v (.int .i64 0), .v (.int .i64 0), .fr 1 [], .fr 1 [], .v (.int .i64 0)]), []))
    else
    callT (w (lvlW w v symL Try.prog HH (n + 0)).2) 26 [.s (.one (.fr 3 b2))] [] outs26 mouts26 fun y7 m8 =>
    bif !y7.1 then (
      some (.s (.agg true [.v (.int .i64 0), .v (.int .i64 0), .v (.int .i64 0), .v (.int .i64 0), .fr 1 [], .fr 1 [], .v (.int .i64 0)]), []))
    else
    bif decide (rho3 < 0) then (
      some (.s (.agg true [.v (.int .i64 0), .v (.int .i64 0), .v (.int .i64 0), .v (.int .i64 0), .fr 1 [], .fr 1 [], .v (.int .i64 0)]), []))
    else
    bif decide (rho3 > 2097152) then (
      some (.s (.agg true [.v (.int .i64 0), .v (.int .i64 0), .v (.int .i64 0), .v (.int .i64 0), .fr 1 [], .fr 1 [], .v (.int .i64 0)]), []))
    else
    bif decide (steps4 < 0) then (
      some (.s (.agg true [.v (.int .i64 0), .v (.int .i64 0), .v (.int .i64 0), .v (.int .i64 0), .fr 1 [], .fr 1 [], .v (.int .i64 0)]), []))
    else
    bif decide (steps4 > 64) then (
      some (.s (.agg true [.v (.int .i64 0), .v (.int .i64 0), .v (.int .i64 0), .v (.int .i64 0), .fr 1 [], .fr 1 [], .v (.int .i64 0)]), []))
    else
    callT (w (lvlW w v symL Try.prog HH (n + 0)).2) 27 [.s (.one (.v (.int .i64 (((a1.length : Nat) : Int)))))] [] outs27 mouts27 fun y9 m10 =>
    callT (w (lvlW w v symL Try.prog HH (n + 0)).2) 27 [.s (.one (.v (.int .i64 (((b2.length : Nat) : Int)))))] [] outs27 mouts27 fun y11 m12 =>
    callT (w (lvlW w v symL Try.prog HH (n + 0)).2) 28 [.s (.one (.ptr 0 0 0))] [.own 10 false [[.fs 1, .fs 2, .fr 3 a1, .fr 3 b2, .v (.int .i64 rho3), .v (.int .i64 steps4), .v (.int .i64 0), .v (.int .i64 0), .v (.int .i64 0), .v (.int .i64 0)]], .own 1 true m10.1, .own 1 true m12.1] outs28 mouts28 fun y13 m14 =>
    (v (lvlW w v symL Try.prog HH (n + 0)).1 ⟨14, 0, true⟩ 0 (loopOf Try.f14 0) (encSt S14_0 (((), (), y13.1, y13.2.1, ()), ((0, 0, 0, 0, (.v (.slice none 0 0)), (.v (.slice none 0 0)), 0, ()), ((), (), m14.1.2.2.1, m14.1.2.2.2.1, m14.1.2.2.2.2.1, m14.1.2.2.2.2.2.1, m14.1.2.2.2.2.2.2.1, m14.1.2.2.2.2.2.2.2.1, m14.1.2.2.2.2.2.2.2.2.1, m14.1.2.2.2.2.2.2.2.2.2.1, ()), m14.2.1, m14.2.2.1, ())))).bind fun p36 =>
    bif sameEx (.exit 0) p36.1 then (decSt S14_0_e0 p36.2 fun x37 =>
      some (.s (.agg true [.v (.int .i64 x37.1.2.2.1), .v (.int .i64 x37.2.2.1.2.2.2.2.2.2.2.1), .v (.int .i64 x37.2.2.1.2.2.2.2.2.2.2.2.1), .v (.int .i64 x37.2.2.1.2.2.2.2.2.2.2.2.2.1), .fr 1 x37.2.2.2.1, .fr 1 x37.2.2.2.2.1, .v (.int .i64 x37.2.2.1.2.2.2.2.2.2.1)]), []))
    else
    none := by kernel_rfl
theorem fn14 (n : Nat) (a1 : List (List D1)) (b2 : List (List D1)) (rho3 : Int) (steps4 : Int) : (lvl Try.prog HH (n + 1)).2 14 [.s (.one (.fr 3 a1)), .s (.one (.fr 3 b2)), .s (.one (.v (.int .i64 rho3))), .s (.one (.v (.int .i64 steps4)))] [] =
    callT (lvl Try.prog HH (n + 0)).2 26 [.s (.one (.fr 3 a1))] [] outs26 mouts26 fun y5 m6 =>
    bif !y5.1 then (
      some (.s (.agg true [.v (.int .i64 0), .v (.int .i64 0), .v (.int .i64 0), .v (.int .i64 0), .fr 1 [], .fr 1 [], .v (.int .i64 0)]), []))
    else
    callT (lvl Try.prog HH (n + 0)).2 26 [.s (.one (.fr 3 b2))] [] outs26 mouts26 fun y7 m8 =>
    bif !y7.1 then (
      some (.s (.agg true [.v (.int .i64 0), .v (.int .i64 0), .v (.int .i64 0), .v (.int .i64 0), .fr 1 [], .fr 1 [], .v (.int .i64 0)]), []))
    else
    bif decide (rho3 < 0) then (
      some (.s (.agg true [.v (.int .i64 0), .v (.int .i64 0), .v (.int .i64 0), .v (.int .i64 0), .fr 1 [], .fr 1 [], .v (.int .i64 0)]), []))
    else
    bif decide (rho3 > 2097152) then (
      some (.s (.agg true [.v (.int .i64 0), .v (.int .i64 0), .v (.int .i64 0), .v (.int .i64 0), .fr 1 [], .fr 1 [], .v (.int .i64 0)]), []))
    else
    bif decide (steps4 < 0) then (
      some (.s (.agg true [.v (.int .i64 0), .v (.int .i64 0), .v (.int .i64 0), .v (.int .i64 0), .fr 1 [], .fr 1 [], .v (.int .i64 0)]), []))
    else
    bif decide (steps4 > 64) then (
      some (.s (.agg true [.v (.int .i64 0), .v (.int .i64 0), .v (.int .i64 0), .v (.int .i64 0), .fr 1 [], .fr 1 [], .v (.int .i64 0)]), []))
    else
    callT (lvl Try.prog HH (n + 0)).2 27 [.s (.one (.v (.int .i64 (((a1.length : Nat) : Int)))))] [] outs27 mouts27 fun y9 m10 =>
    callT (lvl Try.prog HH (n + 0)).2 27 [.s (.one (.v (.int .i64 (((b2.length : Nat) : Int)))))] [] outs27 mouts27 fun y11 m12 =>
    callT (lvl Try.prog HH (n + 0)).2 28 [.s (.one (.ptr 0 0 0))] [.own 10 false [[.fs 1, .fs 2, .fr 3 a1, .fr 3 b2, .v (.int .i64 rho3), .v (.int .i64 steps4), .v (.int .i64 0), .v (.int .i64 0), .v (.int .i64 0), .v (.int .i64 0)]], .own 1 true m10.1, .own 1 true m12.1] outs28 mouts28 fun y13 m14 =>
    ((lvl Try.prog HH (n + 0)).1 ⟨14, 0, true⟩ 0 (loopOf Try.f14 0) (encSt S14_0 (((), (), y13.1, y13.2.1, ()), ((0, 0, 0, 0, (.v (.slice none 0 0)), (.v (.slice none 0 0)), 0, ()), ((), (), m14.1.2.2.1, m14.1.2.2.2.1, m14.1.2.2.2.2.1, m14.1.2.2.2.2.2.1, m14.1.2.2.2.2.2.2.1, m14.1.2.2.2.2.2.2.2.1, m14.1.2.2.2.2.2.2.2.2.1, m14.1.2.2.2.2.2.2.2.2.2.1, ()), m14.2.1, m14.2.2.1, ())))).bind fun p36 =>
    bif sameEx (.exit 0) p36.1 then (decSt S14_0_e0 p36.2 fun x37 =>
      some (.s (.agg true [.v (.int .i64 x37.1.2.2.1), .v (.int .i64 x37.2.2.1.2.2.2.2.2.2.2.1), .v (.int .i64 x37.2.2.1.2.2.2.2.2.2.2.2.1), .v (.int .i64 x37.2.2.1.2.2.2.2.2.2.2.2.2.1), .fr 1 x37.2.2.2.1, .fr 1 x37.2.2.2.2.1, .v (.int .i64 x37.2.2.1.2.2.2.2.2.2.1)]), []))
    else
    none := by
  have h := fn14_w (fun x => x) (fun x => x) n a1 b2 rho3 steps4
  rw [lvlW_id] at h
  exact h

/-! armplan/armplanlaw14.awake -/
theorem fn12 (n : Nat)  : (lvl Try.prog HH (n + 1)).2 12 [] [] =
    callT (lvl Try.prog HH (n + 0)).2 14 [.s (.one (.fr 3 [[.v (.int .i64 0), .v (.int .i64 0), .v (.int .i64 0)]])), .s (.one (.fr 3 [[.v (.int .i64 10), .v (.int .i64 0), .v (.int .i64 0)]])), .s (.one (.v (.int .i64 3))), .s (.one (.v (.int .i64 5)))] [] outs14 mouts14 fun y1 m2 =>
    callT (lvl Try.prog HH (n + 0)).2 14 [.s (.one (.fr 3 [[.v (.int .i64 0), .v (.int .i64 0), .v (.int .i64 0)]])), .s (.one (.fr 3 [[.v (.int .i64 10), .v (.int .i64 0), .v (.int .i64 0)]])), .s (.one (.v (.int .i64 10))), .s (.one (.v (.int .i64 5)))] [] outs14 mouts14 fun y3 m4 =>
    bif y1.1.1 == 1 then (
      letIn ((y1.1.2.1 == (-10)) && ((y1.1.2.2.1 == 0) && ((y1.1.2.2.2.1 == 0) && true)) : Bool) fun b5 =>
      bif b5 then (
        some (.s (.one (.v (.bool (y3.1.1 == 2)))), []))
      else
      some (.s (.one (.v (.bool false))), []))
    else
    some (.s (.one (.v (.bool false))), []) := by kernel_rfl

/-! armplan/armplanlaw14.NearestExclusive -/
theorem fn6_w (w : CallF → CallF) (v : LoopF → LoopF) (n : Nat) (l1 : List (List D1)) (m2 : List (List D1)) (at3 : Int) (rho4 : Int) (steps5 : Int) : (lvlW w v symL Try.prog HH (n + 1)).2 6 [.s (.one (.fr 1 l1)), .s (.one (.fr 1 m2)), .s (.one (.v (.int .i64 at3))), .s (.one (.v (.int .i64 rho4))), .s (.one (.v (.int .i64 steps5)))] [] =
    callT (w (lvlW w v symL Try.prog HH (n + 0)).2) 10 [.s (.one (.fr 1 l1)), .s (.one (.fr 1 m2)), .s (.one (.v (.int .i64 rho4)))] [] outs10 mouts10 fun y6 m7 =>
    callT (w (lvlW w v symL Try.prog HH (n + 0)).2) 11 [.s (.one (.v (.int .i64 at3))), .s (.one (.v (.int .i64 (((y6.1.length : Nat) : Int)))))] [] outs11 mouts11 fun y8 m9 =>
    bif decide (0 ≤ y8.1) then (
      (nth y6.1 y8.1.toNat).bind fun cs10 =>
      bif Nat.beq ((cs10.drop 0).take 3).length 3 then (
        decCts [.int .i64, .int .i64, .int .i64] ((cs10.drop 0).take 3) fun c11 =>
        bif decide ((1 + y6.2.1.length) * 24 ≤ 140737488355328) then (
          callT (w (lvlW w v symL Try.prog HH (n + 0)).2) 11 [.s (.one (.v (.int .i64 steps5))), .s (.one (.v (.int .i64 65)))] [] outs11 mouts11 fun y12 m13 =>
          callT (w (lvlW w v symL Try.prog HH (n + 0)).2) 14 [.s (.one (.fr 3 y6.1)), .s (.one (.fr 3 ([[.v (.int .i64 c11.1), .v (.int .i64 c11.2.1), .v (.int .i64 c11.2.2.1)]] ++ y6.2.1))), .s (.one (.v (.int .i64 y6.2.2.1))), .s (.one (.v (.int .i64 y12.1)))] [] outs14 mouts14 fun y14 m15 =>
          callT (w (lvlW w v symL Try.prog HH (n + 0)).2) 12 [] [] outs12 mouts12 fun y16 m17 =>
          bif y16.1 then (
            bif y14.1.1 != 1 then (
              some (.s (.one (.v (.bool ((((y14.1.2.2.2.2.1.length : Nat) : Int)) == (((y6.1.length : Nat) : Int)))))), []))
            else
            some (.s (.one (.v (.bool false))), []))
          else
          some (.s (.one (.v (.bool false))), []))
        else
        none)
      else
      none)
    else
    none := by kernel_rfl
theorem fn6 (n : Nat) (l1 : List (List D1)) (m2 : List (List D1)) (at3 : Int) (rho4 : Int) (steps5 : Int) : (lvl Try.prog HH (n + 1)).2 6 [.s (.one (.fr 1 l1)), .s (.one (.fr 1 m2)), .s (.one (.v (.int .i64 at3))), .s (.one (.v (.int .i64 rho4))), .s (.one (.v (.int .i64 steps5)))] [] =
    callT (lvl Try.prog HH (n + 0)).2 10 [.s (.one (.fr 1 l1)), .s (.one (.fr 1 m2)), .s (.one (.v (.int .i64 rho4)))] [] outs10 mouts10 fun y6 m7 =>
    callT (lvl Try.prog HH (n + 0)).2 11 [.s (.one (.v (.int .i64 at3))), .s (.one (.v (.int .i64 (((y6.1.length : Nat) : Int)))))] [] outs11 mouts11 fun y8 m9 =>
    bif decide (0 ≤ y8.1) then (
      (nth y6.1 y8.1.toNat).bind fun cs10 =>
      bif Nat.beq ((cs10.drop 0).take 3).length 3 then (
        decCts [.int .i64, .int .i64, .int .i64] ((cs10.drop 0).take 3) fun c11 =>
        bif decide ((1 + y6.2.1.length) * 24 ≤ 140737488355328) then (
          callT (lvl Try.prog HH (n + 0)).2 11 [.s (.one (.v (.int .i64 steps5))), .s (.one (.v (.int .i64 65)))] [] outs11 mouts11 fun y12 m13 =>
          callT (lvl Try.prog HH (n + 0)).2 14 [.s (.one (.fr 3 y6.1)), .s (.one (.fr 3 ([[.v (.int .i64 c11.1), .v (.int .i64 c11.2.1), .v (.int .i64 c11.2.2.1)]] ++ y6.2.1))), .s (.one (.v (.int .i64 y6.2.2.1))), .s (.one (.v (.int .i64 y12.1)))] [] outs14 mouts14 fun y14 m15 =>
          callT (lvl Try.prog HH (n + 0)).2 12 [] [] outs12 mouts12 fun y16 m17 =>
          bif y16.1 then (
            bif y14.1.1 != 1 then (
              some (.s (.one (.v (.bool ((((y14.1.2.2.2.2.1.length : Nat) : Int)) == (((y6.1.length : Nat) : Int)))))), []))
            else
            some (.s (.one (.v (.bool false))), []))
          else
          some (.s (.one (.v (.bool false))), []))
        else
        none)
      else
      none)
    else
    none := by
  have h := fn6_w (fun x => x) (fun x => x) n l1 m2 at3 rho4 steps5
  rw [lvlW_id] at h
  exact h

end Go.Proofs.Ytcldcnolhmmegaa.Am
