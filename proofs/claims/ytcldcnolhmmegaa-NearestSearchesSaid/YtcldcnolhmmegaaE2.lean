/- PRINTED by amprint.py: what the abstract machine answers, function by function. -/
import Derived.Test.YtcldcnolhmmegaaH
import Derived.KernelRfl
set_option linter.unusedVariables false
set_option maxRecDepth 100000
namespace Go.Proofs.Ytcldcnolhmmegaa.Am
open Go Go.Proofs

/-! armplan/nearest.Search -/
theorem loop14_0 (n : Nat) (v15 : Int) (v16 : Bool) (c17 : Int) (c18 : Int) (c19 : Int) (c20 : Int) (c21 : D1) (c22 : D1) (c23 : Int) (c24 : List (List D1)) (c25 : List (List D1)) (c26 : Int) (c27 : Int) (c28 : Int) (c29 : Int) (c30 : Int) (c31 : Int) (es32 : List (List D1)) (es33 : List (List D1)) : (lvl Try.prog HH (n + 1)).1 ⟨14, 0, true⟩ 0 (loopOf Try.f14 0) (encSt S14_0 (((), (), v15, v16, ()), ((c17, c18, c19, c20, c21, c22, c23, ()), ((), (), c24, c25, c26, c27, c28, c29, c30, c31, ()), es32, es33, ()))) =
    bif !v16 then (
      callT (lvl Try.prog HH (n + 0)).2 28 [.s (.one (.ptr 0 0 0))] [.own 10 false [[.fs 1, .fs 2, .fr 3 c24, .fr 3 c25, .v (.int .i64 c26), .v (.int .i64 c27), .v (.int .i64 c28), .v (.int .i64 c29), .v (.int .i64 c30), .v (.int .i64 c31)]], .own 1 true es32, .own 1 true es33] outs28 mouts28 fun y34 m35 =>
      (lvl Try.prog HH (n + 0)).1 ⟨14, 0, true⟩ 0 (loopOf Try.f14 0) (encSt S14_0 (((), (), y34.1, y34.2.1, ()), ((c17, c18, c19, c20, (c21), (c22), c23, ()), ((), (), m35.1.2.2.1, m35.1.2.2.2.1, m35.1.2.2.2.2.1, m35.1.2.2.2.2.2.1, m35.1.2.2.2.2.2.2.1, m35.1.2.2.2.2.2.2.2.1, m35.1.2.2.2.2.2.2.2.2.1, m35.1.2.2.2.2.2.2.2.2.2.1, ()), m35.2.1, m35.2.2.1, ()))))
    else
    some (.exit 0, encSt S14_0_e0 (((), (), v15, ()), ((c17, c18, c19, c20, (c21), (c22), c23, ()), ((), (), c24, c25, c26, c27, c28, c29, c30, c31, ()), es32, es33, ()))) := by kernel_rfl

theorem fn14_w (w : CallF → CallF) (v : LoopF → LoopF) (n : Nat) (a1 : List (List D1)) (b2 : List (List D1)) (rho3 : Int) (steps4 : Int) : (lvlW w v symL Try.prog HH (n + 1)).2 14 [.s (.one (.fr 3 a1)), .s (.one (.fr 3 b2)), .s (.one (.v (.int .i64 rho3))), .s (.one (.v (.int .i64 steps4)))] [] =
    callT (w (lvlW w v symL Try.prog HH (n + 0)).2) 26 [.s (.one (.fr 3 a1))] [] outs26 mouts26 fun y5 m6 =>
    bif !y5.1 then (
      some (.s (.agg true [.v (.int .i64 0), .v (.int .i64 0), .v (.int .i64 0), .v (.int .i64 0), .fr 1 [], .fr 1 [], .v (.int .i64 0)]), []))
    else
    callT (w (lvlW w v symL Try.prog HH (n + 0)).2) 26 [.s (.one (.fr 3 b2))] [] outs26 mouts26 fun y7 m8 =>
    bif !y7.1 then (
      some (.s (.agg true [.v (.int .i64 0), .v (.int .i64 0), .v (.int .i64 0), .v (.int .i64 0), .fr 1 [], .fr 1 [], .v (.int .i64 0)]), []))
    else
    bif decide (rho3 < 0) then (
      some (.s (.agg true [.v (.int .i64 0), .v (.int .i64 0), .v (.int .i64 0), .v (.int .i64 0), .fr 1 [], .fr 1 [], .v (.int .i64 0)]), []))
    else
    bif decide (rho3 > 2097152) then (
      some (.s (.agg true [.v (.int .i64 0), .v (.int .i64 0), .v (.int .i64 0), .v (.int .i64 0), .fr 1 [], .fr 1 [], .v (.int .i64 0)]), []))
    else
    bif decide (steps4 < 0) then (
      some (.s (.agg true [.v (.int .i64 0), .v (.int .i64 0), .v (.int .i64 0), .v (.int .i64 0), .fr 1 [], .fr 1 [], .v (.int .i64 0)]), []))
    else
    bif decide (steps4 > 64) then (
      some (.s (.agg true [.v (.int .i64 0), .v (.int .i64 0), .v (.int .i64 0), .v (.int .i64 0), .fr 1 [], .fr 1 [], .v (.int .i64 0)]), []))
    else
    callT (w (lvlW w v symL Try.prog HH (n + 0)).2) 27 [.s (.one (.v (.int .i64 (((a1.length : Nat) : Int)))))] [] outs27 mouts27 fun y9 m10 =>
    callT (w (lvlW w v symL Try.prog HH (n + 0)).2) 27 [.s (.one (.v (.int .i64 (((b2.length : Nat) : Int)))))] [] outs27 mouts27 fun y11 m12 =>
    callT (w (lvlW w v symL Try.prog HH (n + 0)).2) 28 [.s (.one (.ptr 0 0 0))] [.own 10 false [[.fs 1, .fs 2, .fr 3 a1, .fr 3 b2, .v (.int .i64 rho3), .v (.int .i64 steps4), .v (.int .i64 0), .v (.int .i64 0), .v (.int .i64 0), .v (.int .i64 0)]], .own 1 true m10.1, .own 1 true m12.1] outs28 mouts28 fun y13 m14 =>
    (v (lvlW w v symL Try.prog HH (n + 0)).1 ⟨14, 0, true⟩ 0 (loopOf Try.f14 0) (encSt S14_0 (((), (), y13.1, y13.2.1, ()), ((0, 0, 0, 0, (.v (.slice none 0 0)), (.v (.slice none 0 0)), 0, ()), ((), (), m14.1.2.2.1, m14.1.2.2.2.1, m14.1.2.2.2.2.1, m14.1.2.2.2.2.2.1, m14.1.2.2.2.2.2.2.1, m14.1.2.2.2.2.2.2.2.1, m14.1.2.2.2.2.2.2.2.2.1, m14.1.2.2.2.2.2.2.2.2.2.1, ()), m14.2.1, m14.2.2.1, ())))).bind fun p36 =>
    bif sameEx (.exit 0) p36.1 then (decSt S14_0_e0 p36.2 fun x37 =>
      some (.s (.agg true [.v (.int .i64 x37.1.2.2.1), .v (.int .i64 x37.2.2.1.2.2.2.2.2.2.2.1), .v (.int .i64 x37.2.2.1.2.2.2.2.2.2.2.2.1), .v (.int .i64 x37.2.2.1.2.2.2.2.2.2.2.2.2.1), .fr 1 x37.2.2.2.1, .fr 1 x37.2.2.2.2.1, .v (.int .i64 x37.2.2.1.2.2.2.2.2.2.1)]), []))
    else
    none := by kernel_rfl
theorem fn14 (n : Nat) (a1 : List (List D1)) (b2 : List (List D1)) (rho3 : Int) (steps4 : Int) : (lvl Try.prog HH (n + 1)).2 14 [.s (.one (.fr 3 a1)), .s (.one (.fr 3 b2)), .s (.one (.v (.int .i64 rho3))), .s (.one (.v (.int .i64 steps4)))] [] =
    callT (lvl Try.prog HH (n + 0)).2 26 [.s (.one (.fr 3 a1))] [] outs26 mouts26 fun y5 m6 =>
    bif !y5.1 then (
      some (.s (.agg true [.v (.int .i64 0), .v (.int .i64 0), .v (.int .i64 0), .v (.int .i64 0), .fr 1 [], .fr 1 [], .v (.int .i64 0)]), []))
    else
    callT (lvl Try.prog HH (n + 0)).2 26 [.s (.one (.fr 3 b2))] [] outs26 mouts26 fun y7 m8 =>
    bif !y7.1 then (
      some (.s (.agg true [.v (.int .i64 0), .v (.int .i64 0), .v (.int .i64 0), .v (.int .i64 0), .fr 1 [], .fr 1 [], .v (.int .i64 0)]), []))
    else
    bif decide (rho3 < 0) then (
      some (.s (.agg true [.v (.int .i64 0), .v (.int .i64 0), .v (.int .i64 0), .v (.int .i64 0), .fr 1 [], .fr 1 [], .v (.int .i64 0)]), []))
    else
    bif decide (rho3 > 2097152) then (
      some (.s (.agg true [.v (.int .i64 0), .v (.int .i64 0), .v (.int .i64 0), .v (.int .i64 0), .fr 1 [], .fr 1 [], .v (.int .i64 0)]), []))
    else
    bif decide (steps4 < 0) then (
      some (.s (.agg true [.v (.int .i64 0), .v (.int .i64 0), .v (.int .i64 0), .v (.int .i64 0), .fr 1 [], .fr 1 [], .v (.int .i64 0)]), []))
    else
    bif decide (steps4 > 64) then (
      some (.s (.agg true [.v (.int .i64 0), .v (.int .i64 0), .v (.int .i64 0), .v (.int .i64 0), .fr 1 [], .fr 1 [], .v (.int .i64 0)]), []))
    else
    callT (lvl Try.prog HH (n + 0)).2 27 [.s (.one (.v (.int .i64 (((a1.length : Nat) : Int)))))] [] outs27 mouts27 fun y9 m10 =>
    callT (lvl Try.prog HH (n + 0)).2 27 [.s (.one (.v (.int .i64 (((b2.length : Nat) : Int)))))] [] outs27 mouts27 fun y11 m12 =>
    callT (lvl Try.prog HH (n + 0)).2 28 [.s (.one (.ptr 0 0 0))] [.own 10 false [[.fs 1, .fs 2, .fr 3 a1, .fr 3 b2, .v (.int .i64 rho3), .v (.int .i64 steps4), .v (.int .i64 0), .v (.int .i64 0), .v (.int .i64 0), .v (.int .i64 0)]], .own 1 true m10.1, .own 1 true m12.1] outs28 mouts28 fun y13 m14 =>
    ((lvl Try.prog HH (n + 0)).1 ⟨14, 0, true⟩ 0 (loopOf Try.f14 0) (encSt S14_0 (((), (), y13.1, y13.2.1, ()), ((0, 0, 0, 0, (.v (.slice none 0 0)), (.v (.slice none 0 0)), 0, ()), ((), (), m14.1.2.2.1, m14.1.2.2.2.1, m14.1.2.2.2.2.1, m14.1.2.2.2.2.2.1, m14.1.2.2.2.2.2.2.1, m14.1.2.2.2.2.2.2.2.1, m14.1.2.2.2.2.2.2.2.2.1, m14.1.2.2.2.2.2.2.2.2.2.1, ()), m14.2.1, m14.2.2.1, ())))).bind fun p36 =>
    bif sameEx (.exit 0) p36.1 then (decSt S14_0_e0 p36.2 fun x37 =>
      some (.s (.agg true [.v (.int .i64 x37.1.2.2.1), .v (.int .i64 x37.2.2.1.2.2.2.2.2.2.2.1), .v (.int .i64 x37.2.2.1.2.2.2.2.2.2.2.2.1), .v (.int .i64 x37.2.2.1.2.2.2.2.2.2.2.2.2.1), .fr 1 x37.2.2.2.1, .fr 1 x37.2.2.2.2.1, .v (.int .i64 x37.2.2.1.2.2.2.2.2.2.1)]), []))
    else
    none := by
  have h := fn14_w (fun x => x) (fun x => x) n a1 b2 rho3 steps4
  rw [lvlW_id] at h
  exact h

/-! armplan/armplanlaw14.awake -/
theorem fn12 (n : Nat)  : (lvl Try.prog HH (n + 1)).2 12 [] [] =
    callT (lvl Try.prog HH (n + 0)).2 14 [.s (.one (.fr 3 [[.v (.int .i64 0), .v (.int .i64 0), .v (.int .i64 0)]])), .s (.one (.fr 3 [[.v (.int .i64 10), .v (.int .i64 0), .v (.int .i64 0)]])), .s (.one (.v (.int .i64 3))), .s (.one (.v (.int .i64 5)))] [] outs14 mouts14 fun y1 m2 =>
    callT (lvl Try.prog HH (n + 0)).2 14 [.s (.one (.fr 3 [[.v (.int .i64 0), .v (.int .i64 0), .v (.int .i64 0)]])), .s (.one (.fr 3 [[.v (.int .i64 10), .v (.int .i64 0), .v (.int .i64 0)]])), .s (.one (.v (.int .i64 10))), .s (.one (.v (.int .i64 5)))] [] outs14 mouts14 fun y3 m4 =>
    bif y1.1.1 == 1 then (
      letIn ((y1.1.2.1 == (-10)) && ((y1.1.2.2.1 == 0) && ((y1.1.2.2.2.1 == 0) && true)) : Bool) fun b5 =>
      bif b5 then (
        some (.s (.one (.v (.bool (y3.1.1 == 2)))), []))
      else
      some (.s (.one (.v (.bool false))), []))
    else
    some (.s (.one (.v (.bool false))), []) := by kernel_rfl

/-! armplan/armplanref6.Near -/
theorem fn58 (n : Nat) (v1 : Int) (v2 : Int) (v3 : Int) (most4 : Int) : (lvl Try.prog HH (n + 5)).2 58 [.s (.agg true [.v (.int .i64 v1), .v (.int .i64 v2), .v (.int .i64 v3)]), .s (.one (.v (.int .i64 most4)))] [] =
    Option.bind (
      letIn (IntKind.wrap .i64 (0 - most4) : Int) fun n5 =>
      bif decide (v1 < n5) then (
        some (.ret, encSt S58_0_r ((false, ()), ())))
      else
      bif decide (v1 > most4) then (
        some (.ret, encSt S58_0_r ((false, ()), ())))
      else
      letIn (IntKind.wrap .i64 (0 - most4) : Int) fun n6 =>
      bif decide (v2 < n6) then (
        some (.ret, encSt S58_0_r ((false, ()), ())))
      else
      bif decide (v2 > most4) then (
        some (.ret, encSt S58_0_r ((false, ()), ())))
      else
      letIn (IntKind.wrap .i64 (0 - most4) : Int) fun n7 =>
      bif decide (v3 < n7) then (
        some (.ret, encSt S58_0_r ((false, ()), ())))
      else
      bif decide (v3 > most4) then (
        some (.ret, encSt S58_0_r ((false, ()), ())))
      else
      some (.exit 0, encSt S58_0_e0 ((), ()))) fun p8 =>
    bif sameEx (.ret) p8.1 then (decSt S58_0_r p8.2 fun x9 =>
      some (.s (.one (.v (.bool x9.1.1))), []))
    else
    bif sameEx (.exit 0) p8.1 then (decSt S58_0_e0 p8.2 fun x10 =>
      some (.s (.one (.v (.bool true))), []))
    else
    none := by kernel_rfl

/-! armplan/armplanref14.few -/
theorem loop40_0 (n : Nat) (v2 : List (List D1)) (v3 : Int) : (lvl Try.prog HH (n + 1)).1 ⟨40, 0, true⟩ 0 (loopOf Try.f40 0) (encSt S40_0 ((v2, v3, ()), ())) =
    bif decide (v3 < (((v2.length : Nat) : Int))) then (
      bif decide (v3 ≤ 8) then (
        bif decide (0 ≤ v3) then (
          (nth v2 v3.toNat).bind fun cs4 =>
          bif Nat.beq ((cs4.drop 0).take 3).length 3 then (
            decCts [.int .i64, .int .i64, .int .i64] ((cs4.drop 0).take 3) fun c5 =>
            callT (lvl Try.prog HH (n + 0)).2 58 [.s (.agg true [.v (.int .i64 c5.1), .v (.int .i64 c5.2.1), .v (.int .i64 c5.2.2.1)]), .s (.one (.v (.int .i64 268435456)))] [] outs58 mouts58 fun y6 m7 =>
            bif !y6.1 then (
              some (.ret, encSt S40_0_r ((false, ()), ())))
            else
            letIn (IntKind.wrap .i64 (v3 + 1) : Int) fun n8 =>
            (lvl Try.prog HH (n + 0)).1 ⟨40, 0, true⟩ 0 (loopOf Try.f40 0) (encSt S40_0 ((v2, n8, ()), ())))
          else
          none)
        else
        none)
      else
      some (.exit 0, encSt S40_0_e0 ((v2, ()), ())))
    else
    some (.exit 0, encSt S40_0_e0 ((v2, ()), ())) := by kernel_rfl

theorem fn40 (n : Nat) (l1 : List (List D1)) : (lvl Try.prog HH (n + 1)).2 40 [.s (.one (.fr 3 l1))] [] =
    ((lvl Try.prog HH (n + 0)).1 ⟨40, 0, true⟩ 0 (loopOf Try.f40 0) (encSt S40_0 ((l1, 0, ()), ()))).bind fun p9 =>
    bif sameEx (.ret) p9.1 then (decSt S40_0_r p9.2 fun x10 =>
      some (.s (.one (.v (.bool x10.1.1))), []))
    else
    bif sameEx (.exit 0) p9.1 then (decSt S40_0_e0 p9.2 fun x11 =>
      bif decide ((((x11.1.1.length : Nat) : Int)) ≥ 1) then (
        some (.s (.one (.v (.bool (decide ((((x11.1.1.length : Nat) : Int)) ≤ 8))))), []))
      else
      some (.s (.one (.v (.bool false))), []))
    else
    none := by kernel_rfl

/-! armplan/armplanref14.Sum -/
theorem loop42_0 (n : Nat) (v3 : List (List D1)) (v4 : List (List D1)) (v5 : Int) (c6 : Int) (c7 : Int) (c8 : Int) (c9 : Int) (c10 : Int) (c11 : Int) : (lvl Try.prog HH (n + 5)).1 ⟨42, 0, true⟩ 0 (loopOf Try.f42 0) (encSt S42_0 ((v3, v4, (), (), v5, ()), ((c6, c7, c8, ()), (c9, c10, c11, ()), ()))) =
    bif decide (v5 < (((v3.length : Nat) : Int))) then (
      Option.bind (
        bif decide (0 ≤ v5) then (
          (nth v4 v5.toNat).bind fun cs12 =>
          (nth cs12 0).bind fun d13 =>
          (asInt? .i64 d13).bind fun n14 =>
          bif decide (0 ≤ v5) then (
            (nth v3 v5.toNat).bind fun cs15 =>
            (nth (cs15.drop 0) 0).bind fun d16 =>
            (asInt? .i64 d16).bind fun n17 =>
            letIn (IntKind.wrap .i64 (n14 * n17) : Int) fun n18 =>
            letIn (IntKind.wrap .i64 (c9 + n18) : Int) fun n19 =>
            bif decide (0 ≤ v5) then (
              (nth v4 v5.toNat).bind fun cs20 =>
              (nth cs20 0).bind fun d21 =>
              (asInt? .i64 d21).bind fun n22 =>
              bif decide (0 ≤ v5) then (
                (nth v3 v5.toNat).bind fun cs23 =>
                (nth (cs23.drop 1) 0).bind fun d24 =>
                (asInt? .i64 d24).bind fun n25 =>
                letIn (IntKind.wrap .i64 (n22 * n25) : Int) fun n26 =>
                letIn (IntKind.wrap .i64 (c10 + n26) : Int) fun n27 =>
                bif decide (0 ≤ v5) then (
                  (nth v4 v5.toNat).bind fun cs28 =>
                  (nth cs28 0).bind fun d29 =>
                  (asInt? .i64 d29).bind fun n30 =>
                  bif decide (0 ≤ v5) then (
                    (nth v3 v5.toNat).bind fun cs31 =>
                    (nth (cs31.drop 2) 0).bind fun d32 =>
                    (asInt? .i64 d32).bind fun n33 =>
                    letIn (IntKind.wrap .i64 (n30 * n33) : Int) fun n34 =>
                    letIn (IntKind.wrap .i64 (c11 + n34) : Int) fun n35 =>
                    some (.exit 2, encSt S42_2_e2 ((v3, v4, (), (), v5, ()), ((c6, c7, c8, ()), (n19, n27, n35, ()), ()))))
                  else
                  none)
                else
                none)
              else
              none)
            else
            none)
          else
          none)
        else
        none) fun p36 =>
      bif sameEx (.exit 2) p36.1 then (decSt S42_2_e2 p36.2 fun x37 =>
        letIn (IntKind.wrap .i64 (x37.1.2.2.2.2.1 + 1) : Int) fun n38 =>
        (lvl Try.prog HH (n + 4)).1 ⟨42, 0, true⟩ 0 (loopOf Try.f42 0) (encSt S42_0 ((x37.1.1, x37.1.2.1, (), (), n38, ()), ((x37.2.1.1, x37.2.1.2.1, x37.2.1.2.2.1, ()), (x37.2.2.1.1, x37.2.2.1.2.1, x37.2.2.1.2.2.1, ()), ()))))
      else
      none)
    else
    some (.exit 0, encSt S42_0_e0 (((), (), ()), ((c6, c7, c8, ()), (c9, c10, c11, ()), ()))) := by kernel_rfl

theorem fn42 (n : Nat) (l1 : List (List D1)) (weights2 : List (List D1)) : (lvl Try.prog HH (n + 1)).2 42 [.s (.one (.fr 3 l1)), .s (.one (.fr 1 weights2))] [] =
    ((lvl Try.prog HH (n + 0)).1 ⟨42, 0, true⟩ 0 (loopOf Try.f42 0) (encSt S42_0 ((l1, weights2, (), (), 0, ()), ((0, 0, 0, ()), (0, 0, 0, ()), ())))).bind fun p39 =>
    bif sameEx (.exit 0) p39.1 then (decSt S42_0_e0 p39.2 fun x40 =>
      some (.s (.agg true [.v (.int .i64 x40.2.2.1.1), .v (.int .i64 x40.2.2.1.2.1), .v (.int .i64 x40.2.2.1.2.2.1)]), []))
    else
    none := by kernel_rfl

/-! armplan/armplanref14.minus -/
theorem fn41 (n : Nat) (a1 : Int) (a2 : Int) (a3 : Int) (b4 : Int) (b5 : Int) (b6 : Int) : (lvl Try.prog HH (n + 1)).2 41 [.s (.agg true [.v (.int .i64 a1), .v (.int .i64 a2), .v (.int .i64 a3)]), .s (.agg true [.v (.int .i64 b4), .v (.int .i64 b5), .v (.int .i64 b6)])] [] =
    letIn (IntKind.wrap .i64 (a1 - b4) : Int) fun n7 =>
    letIn (IntKind.wrap .i64 (a2 - b5) : Int) fun n8 =>
    letIn (IntKind.wrap .i64 (a3 - b6) : Int) fun n9 =>
    some (.s (.agg true [.v (.int .i64 n7), .v (.int .i64 n8), .v (.int .i64 n9)]), []) := by kernel_rfl

/-! armplan/armplanref1.Ceil -/
theorem fn64 (n : Nat) (a1 : Int) (b2 : Int) : (lvl Try.prog HH (n + 1)).2 64 [.s (.one (.v (.int .i64 a1))), .s (.one (.v (.int .i64 b2)))] [] =
    bif b2 == 0 then (
      none)
    else
    letIn (IntKind.wrap .i64 (Int.tdiv a1 b2) : Int) fun n3 =>
    bif b2 == 0 then (
      none)
    else
    letIn (Int.tmod a1 b2 : Int) fun n4 =>
    bif decide (n4 > 0) then (
      letIn (IntKind.wrap .i64 (n3 + 1) : Int) fun n5 =>
      some (.s (.one (.v (.int .i64 n5))), []))
    else
    some (.s (.one (.v (.int .i64 n3))), []) := by kernel_rfl

/-! armplan/armplanref14.near -/
theorem fn43_w (w : CallF → CallF) (v : LoopF → LoopF) (n : Nat) (x1 : Int) (x2 : Int) (x3 : Int) (rho4 : Int) : (lvlW w v symL Try.prog HH (n + 5)).2 43 [.s (.agg true [.v (.int .i64 x1), .v (.int .i64 x2), .v (.int .i64 x3)]), .s (.one (.v (.int .i64 rho4)))] [] =
    Option.bind (
      letIn (IntKind.wrap .i64 (0 - x1) : Int) fun n5 =>
      letIn (if n5 > x1 then n5 else x1 : Int) fun n6 =>
      callT (w (lvlW w v symL Try.prog HH (n + 3)).2) 64 [.s (.one (.v (.int .i64 n6))), .s (.one (.v (.int .i64 65536)))] [] outs64 mouts64 fun y7 m8 =>
      letIn (IntKind.wrap .i64 (y7.1 * y7.1) : Int) fun n9 =>
      letIn (IntKind.wrap .i64 (0 + n9) : Int) fun n10 =>
      letIn (IntKind.wrap .i64 (0 - x2) : Int) fun n11 =>
      letIn (if n11 > x2 then n11 else x2 : Int) fun n12 =>
      callT (w (lvlW w v symL Try.prog HH (n + 2)).2) 64 [.s (.one (.v (.int .i64 n12))), .s (.one (.v (.int .i64 65536)))] [] outs64 mouts64 fun y13 m14 =>
      letIn (IntKind.wrap .i64 (y13.1 * y13.1) : Int) fun n15 =>
      letIn (IntKind.wrap .i64 (n10 + n15) : Int) fun n16 =>
      letIn (IntKind.wrap .i64 (0 - x3) : Int) fun n17 =>
      letIn (if n17 > x3 then n17 else x3 : Int) fun n18 =>
      callT (w (lvlW w v symL Try.prog HH (n + 1)).2) 64 [.s (.one (.v (.int .i64 n18))), .s (.one (.v (.int .i64 65536)))] [] outs64 mouts64 fun y19 m20 =>
      letIn (IntKind.wrap .i64 (y19.1 * y19.1) : Int) fun n21 =>
      letIn (IntKind.wrap .i64 (n16 + n21) : Int) fun n22 =>
      some (.exit 0, encSt S43_0_e0 ((rho4, n22, ()), ()))) fun p23 =>
    bif sameEx (.exit 0) p23.1 then (decSt S43_0_e0 p23.2 fun x24 =>
      letIn (IntKind.wrap .i64 (x24.1.1 * x24.1.1) : Int) fun n25 =>
      some (.s (.one (.v (.bool (decide (x24.1.2.1 ≤ n25))))), []))
    else
    none := by kernel_rfl
theorem fn43 (n : Nat) (x1 : Int) (x2 : Int) (x3 : Int) (rho4 : Int) : (lvl Try.prog HH (n + 5)).2 43 [.s (.agg true [.v (.int .i64 x1), .v (.int .i64 x2), .v (.int .i64 x3)]), .s (.one (.v (.int .i64 rho4)))] [] =
    Option.bind (
      letIn (IntKind.wrap .i64 (0 - x1) : Int) fun n5 =>
      letIn (if n5 > x1 then n5 else x1 : Int) fun n6 =>
      callT (lvl Try.prog HH (n + 3)).2 64 [.s (.one (.v (.int .i64 n6))), .s (.one (.v (.int .i64 65536)))] [] outs64 mouts64 fun y7 m8 =>
      letIn (IntKind.wrap .i64 (y7.1 * y7.1) : Int) fun n9 =>
      letIn (IntKind.wrap .i64 (0 + n9) : Int) fun n10 =>
      letIn (IntKind.wrap .i64 (0 - x2) : Int) fun n11 =>
      letIn (if n11 > x2 then n11 else x2 : Int) fun n12 =>
      callT (lvl Try.prog HH (n + 2)).2 64 [.s (.one (.v (.int .i64 n12))), .s (.one (.v (.int .i64 65536)))] [] outs64 mouts64 fun y13 m14 =>
      letIn (IntKind.wrap .i64 (y13.1 * y13.1) : Int) fun n15 =>
      letIn (IntKind.wrap .i64 (n10 + n15) : Int) fun n16 =>
      letIn (IntKind.wrap .i64 (0 - x3) : Int) fun n17 =>
      letIn (if n17 > x3 then n17 else x3 : Int) fun n18 =>
      callT (lvl Try.prog HH (n + 1)).2 64 [.s (.one (.v (.int .i64 n18))), .s (.one (.v (.int .i64 65536)))] [] outs64 mouts64 fun y19 m20 =>
      letIn (IntKind.wrap .i64 (y19.1 * y19.1) : Int) fun n21 =>
      letIn (IntKind.wrap .i64 (n16 + n21) : Int) fun n22 =>
      some (.exit 0, encSt S43_0_e0 ((rho4, n22, ()), ()))) fun p23 =>
    bif sameEx (.exit 0) p23.1 then (decSt S43_0_e0 p23.2 fun x24 =>
      letIn (IntKind.wrap .i64 (x24.1.1 * x24.1.1) : Int) fun n25 =>
      some (.s (.one (.v (.bool (decide (x24.1.2.1 ≤ n25))))), []))
    else
    none := by
  have h := fn43_w (fun x => x) (fun x => x) n x1 x2 x3 rho4
  rw [lvlW_id] at h
  exact h

/-! armplan/armplanref10.Normal -/
theorem loop44_0 (n : Nat) (v10 : Int) (c11 : Int) (c12 : Int) (c13 : Int) (c14 : Int) (c15 : Int) (c16 : Int) : (lvl Try.prog HH (n + 1)).1 ⟨44, 0, true⟩ 0 (loopOf Try.f44 0) (encSt S44_0 (((), (), v10, ()), ((c11, c12, c13, ()), (c14, c15, c16, ()), ()))) =
    bif v10 == 0 then (
      none)
    else
    letIn (IntKind.wrap .i64 (Int.tdiv c11 v10) : Int) fun n17 =>
    bif v10 == 0 then (
      none)
    else
    letIn (IntKind.wrap .i64 (Int.tdiv c12 v10) : Int) fun n18 =>
    bif v10 == 0 then (
      none)
    else
    letIn (IntKind.wrap .i64 (Int.tdiv c13 v10) : Int) fun n19 =>
    callT (lvl Try.prog HH (n + 0)).2 58 [.s (.agg true [.v (.int .i64 n17), .v (.int .i64 n18), .v (.int .i64 n19)]), .s (.one (.v (.int .i64 16384)))] [] outs58 mouts58 fun y20 m21 =>
    bif y20.1 then (
      some (.ret, encSt S44_0_r (((), true, ()), ((n17, n18, n19, ()), ()))))
    else
    letIn (IntKind.wrap .i64 (v10 * 2) : Int) fun n22 =>
    (lvl Try.prog HH (n + 0)).1 ⟨44, 0, true⟩ 0 (loopOf Try.f44 0) (encSt S44_0 (((), (), n22, ()), ((c11, c12, c13, ()), (c14, c15, c16, ()), ()))) := by kernel_rfl

theorem fn44 (n : Nat) (v1 : Int) (v2 : Int) (v3 : Int) : (lvl Try.prog HH (n + 1)).2 44 [.s (.agg true [.v (.int .i64 v1), .v (.int .i64 v2), .v (.int .i64 v3)])] [] =
    letIn ((v1 == 0) && ((v2 == 0) && ((v3 == 0) && true)) : Bool) fun b4 =>
    bif b4 then (
      some (.tup [.agg true [.v (.int .i64 v1), .v (.int .i64 v2), .v (.int .i64 v3)], .one (.v (.bool false))], []))
    else
    ((lvl Try.prog HH (n + 0)).1 ⟨44, 0, true⟩ 0 (loopOf Try.f44 0) (encSt S44_0 (((), (), 1, ()), ((v1, v2, v3, ()), (0, 0, 0, ()), ())))).bind fun p23 =>
    bif sameEx (.ret) p23.1 then (decSt S44_0_r p23.2 fun x24 =>
      some (.tup [.agg true [.v (.int .i64 x24.2.1.1), .v (.int .i64 x24.2.1.2.1), .v (.int .i64 x24.2.1.2.2.1)], .one (.v (.bool x24.1.2.1))], []))
    else
    none := by kernel_rfl

/-! armplan/armplanref14.dot -/
theorem fn46 (n : Nat) (a1 : Int) (a2 : Int) (a3 : Int) (b4 : Int) (b5 : Int) (b6 : Int) : (lvl Try.prog HH (n + 1)).2 46 [.s (.agg true [.v (.int .i64 a1), .v (.int .i64 a2), .v (.int .i64 a3)]), .s (.agg true [.v (.int .i64 b4), .v (.int .i64 b5), .v (.int .i64 b6)])] [] =
    letIn (IntKind.wrap .i64 (a1 * b4) : Int) fun n7 =>
    letIn (IntKind.wrap .i64 (a2 * b5) : Int) fun n8 =>
    letIn (IntKind.wrap .i64 (n7 + n8) : Int) fun n9 =>
    letIn (IntKind.wrap .i64 (a3 * b6) : Int) fun n10 =>
    letIn (IntKind.wrap .i64 (n9 + n10) : Int) fun n11 =>
    some (.s (.one (.v (.int .i64 n11))), []) := by kernel_rfl

/-! armplan/armplanref14.Extreme -/
theorem loop45_0 (n : Nat) (v6 : List (List D1)) (v7 : Int) (v8 : Int) (v9 : Int) (c10 : Int) (c11 : Int) (c12 : Int) : (lvl Try.prog HH (n + 1)).1 ⟨45, 0, true⟩ 0 (loopOf Try.f45 0) (encSt S45_0 ((v6, v7, (), v8, v9, ()), ((c10, c11, c12, ()), ()))) =
    bif decide (v9 < (((v6.length : Nat) : Int))) then (
      bif decide (0 ≤ v9) then (
        (nth v6 v9.toNat).bind fun cs13 =>
        bif Nat.beq ((cs13.drop 0).take 3).length 3 then (
          decCts [.int .i64, .int .i64, .int .i64] ((cs13.drop 0).take 3) fun c14 =>
          callT (lvl Try.prog HH (n + 0)).2 46 [.s (.agg true [.v (.int .i64 c10), .v (.int .i64 c11), .v (.int .i64 c12)]), .s (.agg true [.v (.int .i64 c14.1), .v (.int .i64 c14.2.1), .v (.int .i64 c14.2.2.1)])] [] outs46 mouts46 fun y15 m16 =>
          letIn (IntKind.wrap .i64 (v7 * y15.1) : Int) fun n17 =>
          bif decide (0 ≤ v8) then (
            (nth v6 v8.toNat).bind fun cs18 =>
            bif Nat.beq ((cs18.drop 0).take 3).length 3 then (
              decCts [.int .i64, .int .i64, .int .i64] ((cs18.drop 0).take 3) fun c19 =>
              callT (lvl Try.prog HH (n + 0)).2 46 [.s (.agg true [.v (.int .i64 c10), .v (.int .i64 c11), .v (.int .i64 c12)]), .s (.agg true [.v (.int .i64 c19.1), .v (.int .i64 c19.2.1), .v (.int .i64 c19.2.2.1)])] [] outs46 mouts46 fun y20 m21 =>
              letIn (IntKind.wrap .i64 (v7 * y20.1) : Int) fun n22 =>
              bif decide (n17 < n22) then (
                letIn (IntKind.wrap .i64 (v9 + 1) : Int) fun n23 =>
                (lvl Try.prog HH (n + 0)).1 ⟨45, 0, true⟩ 0 (loopOf Try.f45 0) (encSt S45_0 ((v6, v7, (), v9, n23, ()), ((c10, c11, c12, ()), ()))))
              else
              letIn (IntKind.wrap .i64 (v9 + 1) : Int) fun n24 =>
              (lvl Try.prog HH (n + 0)).1 ⟨45, 0, true⟩ 0 (loopOf Try.f45 0) (encSt S45_0 ((v6, v7, (), v8, n24, ()), ((c10, c11, c12, ()), ()))))
            else
            none)
          else
          none)
        else
        none)
      else
      none)
    else
    some (.exit 0, encSt S45_0_e0 ((v8, ()), ())) := by kernel_rfl

theorem fn45 (n : Nat) (n1 : Int) (n2 : Int) (n3 : Int) (l4 : List (List D1)) (sign5 : Int) : (lvl Try.prog HH (n + 1)).2 45 [.s (.agg true [.v (.int .i64 n1), .v (.int .i64 n2), .v (.int .i64 n3)]), .s (.one (.fr 3 l4)), .s (.one (.v (.int .i64 sign5)))] [] =
    ((lvl Try.prog HH (n + 0)).1 ⟨45, 0, true⟩ 0 (loopOf Try.f45 0) (encSt S45_0 ((l4, sign5, (), 0, 1, ()), ((n1, n2, n3, ()), ())))).bind fun p25 =>
    bif sameEx (.exit 0) p25.1 then (decSt S45_0_e0 p25.2 fun x26 =>
      some (.s (.one (.v (.int .i64 x26.1.1))), []))
    else
    none := by kernel_rfl

/-! armplan/armplanref10.Usable -/
theorem fn30 (n : Nat) (n1 : Int) (n2 : Int) (n3 : Int) : (lvl Try.prog HH (n + 1)).2 30 [.s (.agg true [.v (.int .i64 n1), .v (.int .i64 n2), .v (.int .i64 n3)])] [] =
    letIn (!((n1 == 0) && ((n2 == 0) && ((n3 == 0) && true))) : Bool) fun b4 =>
    bif b4 then (
      callT (lvl Try.prog HH (n + 0)).2 58 [.s (.agg true [.v (.int .i64 n1), .v (.int .i64 n2), .v (.int .i64 n3)]), .s (.one (.v (.int .i64 16384)))] [] outs58 mouts58 fun y5 m6 =>
      some (.s (.one (.v (.bool y5.1))), []))
    else
    some (.s (.one (.v (.bool false))), []) := by kernel_rfl

/-! armplan/armplanref1.Root -/
theorem loop61_0 (n : Nat) (v2 : Int) (v3 : Int) (v4 : Int) : (lvl Try.prog HH (n + 1)).1 ⟨61, 0, true⟩ 0 (loopOf Try.f61 0) (encSt S61_0 ((v2, v3, v4, ()), ())) =
    letIn (IntKind.wrap .i64 (v4 - v3) : Int) fun n5 =>
    bif decide (n5 > 1) then (
      letIn (IntKind.wrap .i64 (v4 - v3) : Int) fun n6 =>
      letIn (IntKind.wrap .i64 (Int.tdiv n6 2) : Int) fun n7 =>
      letIn (IntKind.wrap .i64 (v3 + n7) : Int) fun n8 =>
      bif n8 == 0 then (
        none)
      else
      letIn (IntKind.wrap .i64 (Int.tdiv v2 n8) : Int) fun n9 =>
      bif decide (n8 ≤ n9) then (
        (lvl Try.prog HH (n + 0)).1 ⟨61, 0, true⟩ 0 (loopOf Try.f61 0) (encSt S61_0 ((v2, n8, v4, ()), ())))
      else
      (lvl Try.prog HH (n + 0)).1 ⟨61, 0, true⟩ 0 (loopOf Try.f61 0) (encSt S61_0 ((v2, v3, n8, ()), ())))
    else
    some (.exit 0, encSt S61_0_e0 ((v3, ()), ())) := by kernel_rfl

theorem fn61 (n : Nat) (n1 : Int) : (lvl Try.prog HH (n + 1)).2 61 [.s (.one (.v (.int .i64 n1)))] [] =
    bif decide (n1 < 1) then (
      some (.s (.one (.v (.int .i64 0))), []))
    else
    ((lvl Try.prog HH (n + 0)).1 ⟨61, 0, true⟩ 0 (loopOf Try.f61 0) (encSt S61_0 ((n1, 1, 4294967296, ()), ()))).bind fun p10 =>
    bif sameEx (.exit 0) p10.1 then (decSt S61_0_e0 p10.2 fun x11 =>
      some (.s (.one (.v (.int .i64 x11.1.1))), []))
    else
    none := by kernel_rfl

/-! armplan/armplanref1.RootUp -/
theorem fn34 (n : Nat) (n1 : Int) : (lvl Try.prog HH (n + 1)).2 34 [.s (.one (.v (.int .i64 n1)))] [] =
    callT (lvl Try.prog HH (n + 0)).2 61 [.s (.one (.v (.int .i64 n1)))] [] outs61 mouts61 fun y2 m3 =>
    bif decide (n1 > 0) then (
      letIn (IntKind.wrap .i64 (y2.1 * y2.1) : Int) fun n4 =>
      bif decide (n4 < n1) then (
        letIn (IntKind.wrap .i64 (y2.1 + 1) : Int) fun n5 =>
        some (.s (.one (.v (.int .i64 n5))), []))
      else
      some (.s (.one (.v (.int .i64 y2.1))), []))
    else
    some (.s (.one (.v (.int .i64 y2.1))), []) := by kernel_rfl

end Go.Proofs.Ytcldcnolhmmegaa.Am
