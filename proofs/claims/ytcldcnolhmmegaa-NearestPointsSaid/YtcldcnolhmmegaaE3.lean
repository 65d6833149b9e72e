/- PRINTED by amprint.py: what the abstract machine answers, function by function. -/
import Derived.Test.YtcldcnolhmmegaaH
import Derived.KernelRfl
set_option linter.unusedVariables false
set_option maxRecDepth 100000
namespace Go.Proofs.Ytcldcnolhmmegaa.Am
open Go Go.Proofs

/-! armplan/nearest.Search -/
theorem loop14_0 (n : Nat) (v15 : Int) (v16 : Bool) (c17 : Int) (c18 : Int) (c19 : Int) (c20 : Int) (c21 : D1) (c22 : D1) (c23 : Int) (c24 : List (List D1)) (c25 : List (List D1)) (c26 : Int) (c27 : Int) (c28 : Int) (c29 : Int) (c30 : Int) (c31 : Int) (es32 : List (List D1)) (es33 : List (List D1)) : (lvl Try.prog HH (n + 1)).1 ⟨14, 0, true⟩ 0 (loopOf Try.f14 0) (encSt S14_0 (((), (), v15, v16, ()), ((c17, c18, c19, c20, c21, c22, c23, ()), ((), (), c24, c25, c26, c27, c28, c29, c30, c31, ()), es32, es33, ()))) =
    bif !v16 then (
      callT (lvl Try.prog HH (n + 0)).2 28 [.s (.one (.ptr 0 0 0))] [.own 10 false [[.fs 1, .fs 2, .fr 3 c24, .fr 3 c25, .v (.int .i64 c26), .v (.int .i64 c27), .v (.int .i64 c28), .v (.int .i64 c29), .v (.int .i64 c30), .v (.int .i64 c31)]], .own 1 true es32, .own 1 true es33] outs28 mouts28 fun y34 m35 =>
      (lvl Try.prog HH (n + 0)).1 ⟨14, 0, true⟩ 0 (loopOf Try.f14 0) (encSt S14_0 (((), (), y34.1, y34.2.1, ()), ((c17, c18, c19, c20, (c21), (c22), c23, ()), ((), (), m35.1.2.2.1, m35.1.2.2.2.1, m35.1.2.2.2.2.1, m35.1.2.2.2.2.2.1, m35.1.2.2.2.2.2.2.1, m35.1.2.2.2.2.2.2.2.1, m35.1.2.2.2.2.2.2.2.2.1, m35.1.2.2.2.2.2.2.2.2.2.1, ()), m35.2.1, m35.2.2.1, ()))))
    else
    some (.exit 0, encSt S14_0_e0 (((), (), v15, ()), ((c17, c18, c19, c20, (c21), (c22), c23, ()), ((), (), c24, c25, c26, c27, c28, c29, c30, c31, ()), es32, es33, ()))) := by kernel_rfl

theorem fn14_w (w : CallF → CallF) (v : LoopF → LoopF) (n : Nat) (a1 : List (List D1)) (b2 : List (List D1)) (rho3 : Int) (steps4 : Int) : (lvlW w v symL Try.prog HH (n + 1)).2 14 [.s (.one (.fr 3 a1)), .s (.one (.fr 3 b2)), .s (.one (.v (.int .i64 rho3))), .s (.one (.v (.int .i64 steps4)))] [] =
    callT (w (lvlW w v symL Try.prog HH (n + 0)).2) 26 [.s (.one (.fr 3 a1))] [] outs26 mouts26 fun y5 m6 =>
    bif !y5.1 then (
      some (.s (.agg true [.v (.int .i64 0), .v (.int .i64 0), .v (.int .i64 0), .v (.int .i64 0), .fr 1 [], .fr 1 [], .v (.int .i64 0)]), []))
    else
    callT (w (lvlW w v symL Try.prog HH (n + 0)).2) 26 [.s (.one (.fr 3 b2))] [] outs26 mouts26 fun y7 m8 =>
    bif !y7.1 then (
      some (.s (.agg true [.v (.int .i64 0), .v (.int .i64 0), .v (.int .i64 0), .v (.int .i64 0), .fr 1 [], .fr 1 [], .v (.int .i64 0)]), []))
    else
    bif decide (rho3 < 0) then (
      some (.s (.agg true [.v (.int .i64 0), .v (.int .i64 0), .v (.int .i64 0), .v (.int .i64 0), .fr 1 [], .fr 1 [], .v (.int .i64 0)]), []))
    else
    bif decide (rho3 > 2097152) then (
      some (.s (.agg true [.v (.int .i64 0), .v (.int .i64 0), .v (.int .i64 0), .v (.int .i64 0), .fr 1 [], .fr 1 [], .v (.int .i64 0)]), []))
    else
    bif decide (steps4 < 0) then (
      some (.s (.agg true [.v (.int .i64 0), .v (.int .i64 0), .v (.int .i64 0), .v (.int .i64 0), .fr 1 [], .fr 1 [], .v (.int .i64 0)]), []))
    else
    bif decide (steps4 > 64) then (
      some (.s (.agg true [.v (.int .i64 0), .v (.int .i64 0), .v (.int .i64 0), .v (.int .i64 0), .fr 1 [], .fr 1 [], .v (.int .i64 0)]), []))
    else
    callT (w (lvlW w v symL Try.prog HH (n + 0)).2) 27 [.s (.one (.v (.int .i64 (((a1.length : Nat) : Int)))))] [] outs27 mouts27 fun y9 m10 =>
    callT (w (lvlW w v symL Try.prog HH (n + 0)).2) 27 [.s (.one (.v (.int .i64 (((b2.length : Nat) : Int)))))] [] outs27 mouts27 fun y11 m12 =>
    callT (w (lvlW w v symL Try.prog HH (n + 0)).2) 28 [.s (.one (.ptr 0 0 0))] [.own 10 false [[.fs 1, .fs 2, .fr 3 a1, .fr 3 b2, .v (.int .i64 rho3), .v (.int .i64 steps4), .v (.int .i64 0), .v (.int .i64 0), .v (.int .i64 0), .v (.int .i64 0)]], .own 1 true m10.1, .own 1 true m12.1] outs28 mouts28 fun y13 m14 =>
    (v (lvlW w v symL Try.prog HH (n + 0)).1 ⟨14, 0, true⟩ 0 (loopOf Try.f14 0) (encSt S14_0 (((), (), y13.1, y13.2.1, ()), ((0, 0, 0, 0, (.v (.slice none 0 0)), (.v (.slice none 0 0)), 0, ()), ((), (), m14.1.2.2.1, m14.1.2.2.2.1, m14.1.2.2.2.2.1, m14.1.2.2.2.2.2.1, m14.1.2.2.2.2.2.2.1, m14.1.2.2.2.2.2.2.2.1, m14.1.2.2.2.2.2.2.2.2.1, m14.1.2.2.2.2.2.2.2.2.2.1, ()), m14.2.1, m14.2.2.1, ())))).bind fun p36 =>
    bif sameEx (.exit 0) p36.1 then (decSt S14_0_e0 p36.2 fun x37 =>
      some (.s (.agg true [.v (.int .i64 x37.1.2.2.1), .v (.int .i64 x37.2.2.1.2.2.2.2.2.2.2.1), .v (.int .i64 x37.2.2.1.2.2.2.2.2.2.2.2.1), .v (.int .i64 x37.2.2.1.2.2.2.2.2.2.2.2.2.1), .fr 1 x37.2.2.2.1, .fr 1 x37.2.2.2.2.1, .v (.int .i64 x37.2.2.1.2.2.2.2.2.2.1)]), []))
    else
    none := by kernel_rfl
theorem fn14 (n : Nat) (a1 : List (List D1)) (b2 : List (List D1)) (rho3 : Int) (steps4 : Int) : (lvl Try.prog HH (n + 1)).2 14 [.s (.one (.fr 3 a1)), .s (.one (.fr 3 b2)), .s (.one (.v (.int .i64 rho3))), .s (.one (.v (.int .i64 steps4)))] [] =
    callT (lvl Try.prog HH (n + 0)).2 26 [.s (.one (.fr 3 a1))] [] outs26 mouts26 fun y5 m6 =>
    bif !y5.1 then (
      some (.s (.agg true [.v (.int .i64 0), .v (.int .i64 0), .v (.int .i64 0), .v (.int .i64 0), .fr 1 [], .fr 1 [], .v (.int .i64 0)]), []))
    else
    callT (lvl Try.prog HH (n + 0)).2 26 [.s (.one (.fr 3 b2))] [] outs26 mouts26 fun y7 m8 =>
    bif !y7.1 then (
      some (.s (.agg true [.v (.int .i64 0), .v (.int .i64 0), .v (.int .i64 0), .v (.int .i64 0), .fr 1 [], .fr 1 [], .v (.int .i64 0)]), []))
    else
    bif decide (rho3 < 0) then (
      some (.s (.agg true [.v (.int .i64 0), .v (.int .i64 0), .v (.int .i64 0), .v (.int .i64 0), .fr 1 [], .fr 1 [], .v (.int .i64 0)]), []))
    else
    bif decide (rho3 > 2097152) then (
      some (.s (.agg true [.v (.int .i64 0), .v (.int .i64 0), .v (.int .i64 0), .v (.int .i64 0), .fr 1 [], .fr 1 [], .v (.int .i64 0)]), []))
    else
    bif decide (steps4 < 0) then (
      some (.s (.agg true [.v (.int .i64 0), .v (.int .i64 0), .v (.int .i64 0), .v (.int .i64 0), .fr 1 [], .fr 1 [], .v (.int .i64 0)]), []))
    else
    bif decide (steps4 > 64) then (
      some (.s (.agg true [.v (.int .i64 0), .v (.int .i64 0), .v (.int .i64 0), .v (.int .i64 0), .fr 1 [], .fr 1 [], .v (.int .i64 0)]), []))
    else
    callT (lvl Try.prog HH (n + 0)).2 27 [.s (.one (.v (.int .i64 (((a1.length : Nat) : Int)))))] [] outs27 mouts27 fun y9 m10 =>
    callT (lvl Try.prog HH (n + 0)).2 27 [.s (.one (.v (.int .i64 (((b2.length : Nat) : Int)))))] [] outs27 mouts27 fun y11 m12 =>
    callT (lvl Try.prog HH (n + 0)).2 28 [.s (.one (.ptr 0 0 0))] [.own 10 false [[.fs 1, .fs 2, .fr 3 a1, .fr 3 b2, .v (.int .i64 rho3), .v (.int .i64 steps4), .v (.int .i64 0), .v (.int .i64 0), .v (.int .i64 0), .v (.int .i64 0)]], .own 1 true m10.1, .own 1 true m12.1] outs28 mouts28 fun y13 m14 =>
    ((lvl Try.prog HH (n + 0)).1 ⟨14, 0, true⟩ 0 (loopOf Try.f14 0) (encSt S14_0 (((), (), y13.1, y13.2.1, ()), ((0, 0, 0, 0, (.v (.slice none 0 0)), (.v (.slice none 0 0)), 0, ()), ((), (), m14.1.2.2.1, m14.1.2.2.2.1, m14.1.2.2.2.2.1, m14.1.2.2.2.2.2.1, m14.1.2.2.2.2.2.2.1, m14.1.2.2.2.2.2.2.2.1, m14.1.2.2.2.2.2.2.2.2.1, m14.1.2.2.2.2.2.2.2.2.2.1, ()), m14.2.1, m14.2.2.1, ())))).bind fun p36 =>
    bif sameEx (.exit 0) p36.1 then (decSt S14_0_e0 p36.2 fun x37 =>
      some (.s (.agg true [.v (.int .i64 x37.1.2.2.1), .v (.int .i64 x37.2.2.1.2.2.2.2.2.2.2.1), .v (.int .i64 x37.2.2.1.2.2.2.2.2.2.2.2.1), .v (.int .i64 x37.2.2.1.2.2.2.2.2.2.2.2.2.1), .fr 1 x37.2.2.2.1, .fr 1 x37.2.2.2.2.1, .v (.int .i64 x37.2.2.1.2.2.2.2.2.2.1)]), []))
    else
    none := by
  have h := fn14_w (fun x => x) (fun x => x) n a1 b2 rho3 steps4
  rw [lvlW_id] at h
  exact h

/-! armplan/armplanlaw14.awake -/
theorem fn12 (n : Nat)  : (lvl Try.prog HH (n + 1)).2 12 [] [] =
    callT (lvl Try.prog HH (n + 0)).2 14 [.s (.one (.fr 3 [[.v (.int .i64 0), .v (.int .i64 0), .v (.int .i64 0)]])), .s (.one (.fr 3 [[.v (.int .i64 10), .v (.int .i64 0), .v (.int .i64 0)]])), .s (.one (.v (.int .i64 3))), .s (.one (.v (.int .i64 5)))] [] outs14 mouts14 fun y1 m2 =>
    callT (lvl Try.prog HH (n + 0)).2 14 [.s (.one (.fr 3 [[.v (.int .i64 0), .v (.int .i64 0), .v (.int .i64 0)]])), .s (.one (.fr 3 [[.v (.int .i64 10), .v (.int .i64 0), .v (.int .i64 0)]])), .s (.one (.v (.int .i64 10))), .s (.one (.v (.int .i64 5)))] [] outs14 mouts14 fun y3 m4 =>
    bif y1.1.1 == 1 then (
      letIn ((y1.1.2.1 == (-10)) && ((y1.1.2.2.1 == 0) && ((y1.1.2.2.2.1 == 0) && true)) : Bool) fun b5 =>
      bif b5 then (
        some (.s (.one (.v (.bool (y3.1.1 == 2)))), []))
      else
      some (.s (.one (.v (.bool false))), []))
    else
    some (.s (.one (.v (.bool false))), []) := by kernel_rfl

/-! armplan/armplanlaw14.NearestPoints -/
theorem fn7_w (w : CallF → CallF) (v : LoopF → LoopF) (n : Nat) (l1 : List (List D1)) (m2 : List (List D1)) (rho3 : Int) (steps4 : Int) : (lvlW w v symL Try.prog HH (n + 5)).2 7 [.s (.one (.fr 1 l1)), .s (.one (.fr 1 m2)), .s (.one (.v (.int .i64 rho3))), .s (.one (.v (.int .i64 steps4)))] [] =
    callT (w (lvlW w v symL Try.prog HH (n + 4)).2) 10 [.s (.one (.fr 1 l1)), .s (.one (.fr 1 m2)), .s (.one (.v (.int .i64 rho3)))] [] outs10 mouts10 fun y5 m6 =>
    bif true && decide (0 ≤ 1) && decide (1 ≤ ((y5.1.length : Nat) : Int)) then (
      bif true && decide (0 ≤ 1) && decide (1 ≤ ((y5.2.1.length : Nat) : Int)) then (
        callT (w (lvlW w v symL Try.prog HH (n + 4)).2) 11 [.s (.one (.v (.int .i64 steps4))), .s (.one (.v (.int .i64 65)))] [] outs11 mouts11 fun y7 m8 =>
        callT (w (lvlW w v symL Try.prog HH (n + 4)).2) 14 [.s (.one (.fr 3 ((y5.1.take 1).drop 0))), .s (.one (.fr 3 ((y5.2.1.take 1).drop 0))), .s (.one (.v (.int .i64 y5.2.2.1))), .s (.one (.v (.int .i64 y7.1)))] [] outs14 mouts14 fun y9 m10 =>
        Option.bind (
          (nth y5.1 0).bind fun cs11 =>
          (nth (cs11.drop 0) 0).bind fun d12 =>
          (asInt? .i64 d12).bind fun n13 =>
          (nth y5.2.1 0).bind fun cs14 =>
          (nth (cs14.drop 0) 0).bind fun d15 =>
          (asInt? .i64 d15).bind fun n16 =>
          letIn (IntKind.wrap .i64 (n13 - n16) : Int) fun n17 =>
          (nth y5.1 0).bind fun cs18 =>
          (nth (cs18.drop 0) 0).bind fun d19 =>
          (asInt? .i64 d19).bind fun n20 =>
          (nth y5.2.1 0).bind fun cs21 =>
          (nth (cs21.drop 0) 0).bind fun d22 =>
          (asInt? .i64 d22).bind fun n23 =>
          letIn (IntKind.wrap .i64 (n20 - n23) : Int) fun n24 =>
          letIn (IntKind.wrap .i64 (n17 * n24) : Int) fun n25 =>
          letIn (IntKind.wrap .i64 (0 + n25) : Int) fun n26 =>
          (nth y5.1 0).bind fun cs27 =>
          (nth (cs27.drop 1) 0).bind fun d28 =>
          (asInt? .i64 d28).bind fun n29 =>
          (nth y5.2.1 0).bind fun cs30 =>
          (nth (cs30.drop 1) 0).bind fun d31 =>
          (asInt? .i64 d31).bind fun n32 =>
          letIn (IntKind.wrap .i64 (n29 - n32) : Int) fun n33 =>
          (nth y5.1 0).bind fun cs34 =>
          (nth (cs34.drop 1) 0).bind fun d35 =>
          (asInt? .i64 d35).bind fun n36 =>
          (nth y5.2.1 0).bind fun cs37 =>
          (nth (cs37.drop 1) 0).bind fun d38 =>
          (asInt? .i64 d38).bind fun n39 =>
          letIn (IntKind.wrap .i64 (n36 - n39) : Int) fun n40 =>
          letIn (IntKind.wrap .i64 (n33 * n40) : Int) fun n41 =>
          letIn (IntKind.wrap .i64 (n26 + n41) : Int) fun n42 =>
          (nth y5.1 0).bind fun cs43 =>
          (nth (cs43.drop 2) 0).bind fun d44 =>
          (asInt? .i64 d44).bind fun n45 =>
          (nth y5.2.1 0).bind fun cs46 =>
          (nth (cs46.drop 2) 0).bind fun d47 =>
          (asInt? .i64 d47).bind fun n48 =>
          letIn (IntKind.wrap .i64 (n45 - n48) : Int) fun n49 =>
          (nth y5.1 0).bind fun cs50 =>
          (nth (cs50.drop 2) 0).bind fun d51 =>
          (asInt? .i64 d51).bind fun n52 =>
          (nth y5.2.1 0).bind fun cs53 =>
          (nth (cs53.drop 2) 0).bind fun d54 =>
          (asInt? .i64 d54).bind fun n55 =>
          letIn (IntKind.wrap .i64 (n52 - n55) : Int) fun n56 =>
          letIn (IntKind.wrap .i64 (n49 * n56) : Int) fun n57 =>
          letIn (IntKind.wrap .i64 (n42 + n57) : Int) fun n58 =>
          some (.exit 0, encSt S7_0_e0 ((y5.2.2.1, (), n58, ()), ((y9.1.1, y9.1.2.1, y9.1.2.2.1, y9.1.2.2.2.1, y9.1.2.2.2.2.1, y9.1.2.2.2.2.2.1, y9.1.2.2.2.2.2.2.1, ()), ())))) fun p59 =>
        bif sameEx (.exit 0) p59.1 then (decSt S7_0_e0 p59.2 fun x60 =>
          callT (w (lvlW w v symL Try.prog HH (n + 4)).2) 12 [] [] outs12 mouts12 fun y61 m62 =>
          bif y61.1 then (
            bif x60.2.1.2.2.2.2.2.2.1 == 0 then (
              letIn (IntKind.wrap .i64 (x60.1.1 * x60.1.1) : Int) fun n63 =>
              some (.s (.one (.v (.bool ((x60.2.1.1 == 2) == (decide (x60.1.2.2.1 ≤ n63)))))), []))
            else
            some (.s (.one (.v (.bool false))), []))
          else
          some (.s (.one (.v (.bool false))), []))
        else
        none)
      else
      none)
    else
    none := by kernel_rfl
theorem fn7 (n : Nat) (l1 : List (List D1)) (m2 : List (List D1)) (rho3 : Int) (steps4 : Int) : (lvl Try.prog HH (n + 5)).2 7 [.s (.one (.fr 1 l1)), .s (.one (.fr 1 m2)), .s (.one (.v (.int .i64 rho3))), .s (.one (.v (.int .i64 steps4)))] [] =
    callT (lvl Try.prog HH (n + 4)).2 10 [.s (.one (.fr 1 l1)), .s (.one (.fr 1 m2)), .s (.one (.v (.int .i64 rho3)))] [] outs10 mouts10 fun y5 m6 =>
    bif true && decide (0 ≤ 1) && decide (1 ≤ ((y5.1.length : Nat) : Int)) then (
      bif true && decide (0 ≤ 1) && decide (1 ≤ ((y5.2.1.length : Nat) : Int)) then (
        callT (lvl Try.prog HH (n + 4)).2 11 [.s (.one (.v (.int .i64 steps4))), .s (.one (.v (.int .i64 65)))] [] outs11 mouts11 fun y7 m8 =>
        callT (lvl Try.prog HH (n + 4)).2 14 [.s (.one (.fr 3 ((y5.1.take 1).drop 0))), .s (.one (.fr 3 ((y5.2.1.take 1).drop 0))), .s (.one (.v (.int .i64 y5.2.2.1))), .s (.one (.v (.int .i64 y7.1)))] [] outs14 mouts14 fun y9 m10 =>
        Option.bind (
          (nth y5.1 0).bind fun cs11 =>
          (nth (cs11.drop 0) 0).bind fun d12 =>
          (asInt? .i64 d12).bind fun n13 =>
          (nth y5.2.1 0).bind fun cs14 =>
          (nth (cs14.drop 0) 0).bind fun d15 =>
          (asInt? .i64 d15).bind fun n16 =>
          letIn (IntKind.wrap .i64 (n13 - n16) : Int) fun n17 =>
          (nth y5.1 0).bind fun cs18 =>
          (nth (cs18.drop 0) 0).bind fun d19 =>
          (asInt? .i64 d19).bind fun n20 =>
          (nth y5.2.1 0).bind fun cs21 =>
          (nth (cs21.drop 0) 0).bind fun d22 =>
          (asInt? .i64 d22).bind fun n23 =>
          letIn (IntKind.wrap .i64 (n20 - n23) : Int) fun n24 =>
          letIn (IntKind.wrap .i64 (n17 * n24) : Int) fun n25 =>
          letIn (IntKind.wrap .i64 (0 + n25) : Int) fun n26 =>
          (nth y5.1 0).bind fun cs27 =>
          (nth (cs27.drop 1) 0).bind fun d28 =>
          (asInt? .i64 d28).bind fun n29 =>
          (nth y5.2.1 0).bind fun cs30 =>
          (nth (cs30.drop 1) 0).bind fun d31 =>
          (asInt? .i64 d31).bind fun n32 =>
          letIn (IntKind.wrap .i64 (n29 - n32) : Int) fun n33 =>
          (nth y5.1 0).bind fun cs34 =>
          (nth (cs34.drop 1) 0).bind fun d35 =>
          (asInt? .i64 d35).bind fun n36 =>
          (nth y5.2.1 0).bind fun cs37 =>
          (nth (cs37.drop 1) 0).bind fun d38 =>
          (asInt? .i64 d38).bind fun n39 =>
          letIn (IntKind.wrap .i64 (n36 - n39) : Int) fun n40 =>
          letIn (IntKind.wrap .i64 (n33 * n40) : Int) fun n41 =>
          letIn (IntKind.wrap .i64 (n26 + n41) : Int) fun n42 =>
          (nth y5.1 0).bind fun cs43 =>
          (nth (cs43.drop 2) 0).bind fun d44 =>
          (asInt? .i64 d44).bind fun n45 =>
          (nth y5.2.1 0).bind fun cs46 =>
          (nth (cs46.drop 2) 0).bind fun d47 =>
          (asInt? .i64 d47).bind fun n48 =>
          letIn (IntKind.wrap .i64 (n45 - n48) : Int) fun n49 =>
          (nth y5.1 0).bind fun cs50 =>
          (nth (cs50.drop 2) 0).bind fun d51 =>
          (asInt? .i64 d51).bind fun n52 =>
          (nth y5.2.1 0).bind fun cs53 =>
          (nth (cs53.drop 2) 0).bind fun d54 =>
          (asInt? .i64 d54).bind fun n55 =>
          letIn (IntKind.wrap .i64 (n52 - n55) : Int) fun n56 =>
          letIn (IntKind.wrap .i64 (n49 * n56) : Int) fun n57 =>
          letIn (IntKind.wrap .i64 (n42 + n57) : Int) fun n58 =>
          some (.exit 0, encSt S7_0_e0 ((y5.2.2.1, (), n58, ()), ((y9.1.1, y9.1.2.1, y9.1.2.2.1, y9.1.2.2.2.1, y9.1.2.2.2.2.1, y9.1.2.2.2.2.2.1, y9.1.2.2.2.2.2.2.1, ()), ())))) fun p59 =>
        bif sameEx (.exit 0) p59.1 then (decSt S7_0_e0 p59.2 fun x60 =>
          callT (lvl Try.prog HH (n + 4)).2 12 [] [] outs12 mouts12 fun y61 m62 =>
          bif y61.1 then (
            bif x60.2.1.2.2.2.2.2.2.1 == 0 then (
              letIn (IntKind.wrap .i64 (x60.1.1 * x60.1.1) : Int) fun n63 =>
              some (.s (.one (.v (.bool ((x60.2.1.1 == 2) == (decide (x60.1.2.2.1 ≤ n63)))))), []))
            else
            some (.s (.one (.v (.bool false))), []))
          else
          some (.s (.one (.v (.bool false))), []))
        else
        none)
      else
      none)
    else
    none := by
  have h := fn7_w (fun x => x) (fun x => x) n l1 m2 rho3 steps4
  rw [lvlW_id] at h
  exact h

end Go.Proofs.Ytcldcnolhmmegaa.Am
