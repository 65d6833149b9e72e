/- PRINTED by amprint.py: what the abstract machine answers, function by function. -/
import Derived.Test.YtcldcnolhmmegaaH
import Derived.KernelRfl
set_option linter.unusedVariables false
set_option maxRecDepth 100000
namespace Go.Proofs.Ytcldcnolhmmegaa.Am
open Go Go.Proofs

/-! armplan/nearest.Search -/
theorem loop14_0 (n : Nat) (v15 : Int) (v16 : Bool) (c17 : Int) (c18 : Int) (c19 : Int) (c20 : Int) (c21 : D1) (c22 : D1) (c23 : Int) (c24 : List (List D1)) (c25 : List (List D1)) (c26 : Int) (c27 : Int) (c28 : Int) (c29 : Int) (c30 : Int) (c31 : Int) (es32 : List (List D1)) (es33 : List (List D1)) : (lvl Try.prog HH (n + 1)).1 ⟨14, 0, true⟩ 0 (loopOf Try.f14 0) (encSt S14_0 (((), (), v15, v16, ()), ((c17, c18, c19, c20, c21, c22, c23, ()), ((), (), c24, c25, c26, c27, c28, c29, c30, c31, ()), es32, es33, ()))) =
    bif !v16 then (
      callT (lvl Try.prog HH (n + 0)).2 28 [.s (.one (.ptr 0 0 0))] [.own 10 false [[.fs 1, .fs 2, .fr 3 c24, .fr 3 c25, .v (.int .i64 c26), .v (.int .i64 c27), .v (.int .i64 c28), .v (.int .i64 c29), .v (.int .i64 c30), .v (.int .i64 c31)]], .own 1 true es32, .own 1 true es33] outs28 mouts28 fun y34 m35 =>
      (lvl Try.prog HH (n + 0)).1 ⟨14, 0, true⟩ 0 (loopOf Try.f14 0) (encSt S14_0 (((), (), y34.1, y34.2.1, ()), ((c17, c18, c19, c20, (c21), (c22), c23, ()), ((), (), m35.1.2.2.1, m35.1.2.2.2.1, m35.1.2.2.2.2.1, m35.1.2.2.2.2.2.1, m35.1.2.2.2.2.2.2.1, m35.1.2.2.2.2.2.2.2.1, m35.1.2.2.2.2.2.2.2.2.1, m35.1.2.2.2.2.2.2.2.2.2.1, ()), m35.2.1, m35.2.2.1, ()))))
    else
    some (.exit 0, encSt S14_0_e0 (((), (), v15, ()), ((c17, c18, c19, c20, (c21), (c22), c23, ()), ((), (), c24, c25, c26, c27, c28, c29, c30, c31, ()), es32, es33, ()))) := by kernel_rfl

theorem fn14_w (w : CallF → CallF) (v : LoopF → LoopF) (n : Nat) (a1 : List (List D1)) (b2 : List (List D1)) (rho3 : Int) (steps4 : Int) : (lvlW w v symL Try.prog HH (n + 1)).2 14 [.s (.one (.fr 3 a1)), .s (.one (.fr 3 b2)), .s (.one (.v (.int .i64 rho3))), .s (.one (.v (.int .i64 steps4)))] [] =
    callT (w (lvlW w v symL Try.prog HH (n + 0)).2) 26 [.s (.one (.fr 3 a1))] [] outs26 mouts26 fun y5 m6 =>
    bif !y5.1 then (
      some (.s (.agg true [.v (.int .i64 0), .v (.int .i64 0), .v (.int .i64 0), .v (.int .i64 0), .fr 1 [], .fr 1 [], .v (.int .i64 0)]), []))
    else
    callT (w (lvlW w v symL Try.prog HH (n + 0)).2) 26 [.s (.one (.fr 3 b2))] [] outs26 mouts26 fun y7 m8 =>
    bif !y7.1 then (
      some (.s (.agg true [.v (.int .i64 0), .v (.int .i64 0), .v (.int .i64 0), .v (.int .i64 0), .fr 1 [], .fr 1 [], .v (.int .i64 0)]), []))
    else
    bif decide (rho3 < 0) then (
      some (.s (.agg true [.v (.int .i64 0), .v (.int .i64 0), .v (.int .i64 0), .v (.int .i64 0), .fr 1 [], .fr 1 [], .v (.int .i64 0)]), []))
    else
    bif decide (rho3 > 2097152) then (
      some (.s (.agg true [.v (.int .i64 0), .v (.int .i64 0), .v (.int .i64 0), .v (.int .i64 0), .fr 1 [], .fr 1 [], .v (.int .i64 0)]), []))
    else
    bif decide (steps4 < 0) then (
      some (.s (.agg true [.v (.int .i64 0), .v (.int .i64 0), .v (.int .i64 0), .v (.int .i64 0), .fr 1 [], .fr 1 [], .v (.int .i64 0)]), []))
    else
    bif decide (steps4 > 64) then (
      some (.s (.agg true [.v (.int .i64 0), .v (.int .i64 0), .v (.int .i64 0), .v (.int .i64 0), .fr 1 [], .fr 1 [], .v (.int .i64 0)]), []))
    else
    callT (w (lvlW w v symL Try.prog HH (n + 0)).2) 27 [.s (.one (.v (.int .i64 (((a1.length : Nat) : Int)))))] [] outs27 mouts27 fun y9 m10 =>
    callT (w (lvlW w v symL Try.prog HH (n + 0)).2) 27 [.s (.one (.v (.int .i64 (((b2.length : Nat) : Int)))))] [] outs27 mouts27 fun y11 m12 =>
    callT (w (lvlW w v symL Try.prog HH (n + 0)).2) 28 [.s (.one (.ptr 0 0 0))] [.own 10 false [[.fs 1, .fs 2, .fr 3 a1, .fr 3 b2, .v (.int .i64 rho3), .v (.int .i64 steps4), .v (.int .i64 0), .v (.int .i64 0), .v (.int .i64 0), .v (.int .i64 0)]], .own 1 true m10.1, .own 1 true m12.1] outs28 mouts28 fun y13 m14 =>
    (v (lvlW w v symL Try.prog HH (n + 0)).1 ⟨14, 0, true⟩ 0 (loopOf Try.f14 0) (encSt S14_0 (((), (), y13.1, y13.2.1, ()), ((0, 0, 0, 0, (.v (.slice none 0 0)), (.v (.slice none 0 0)), 0, ()), ((), (), m14.1.2.2.1, m14.1.2.2.2.1, m14.1.2.2.2.2.1, m14.1.2.2.2.2.2.1, m14.1.2.2.2.2.2.2.1, m14.1.2.2.2.2.2.2.2.1, m14.1.2.2.2.2.2.2.2.2.1, m14.1.2.2.2.2.2.2.2.2.2.1, ()), m14.2.1, m14.2.2.1, ())))).bind fun p36 =>
    bif sameEx (.exit 0) p36.1 then (decSt S14_0_e0 p36.2 fun x37 =>
      some (.s (.agg true [.v (.int .i64 x37.1.2.2.1), .v (.int .i64 x37.2.2.1.2.2.2.2.2.2.2.1), .v (.int .i64 x37.2.2.1.2.2.2.2.2.2.2.2.1), .v (.int .i64 x37.2.2.1.2.2.2.2.2.2.2.2.2.1), .fr 1 x37.2.2.2.1, .fr 1 x37.2.2.2.2.1, .v (.int .i64 x37.2.2.1.2.2.2.2.2.2.1)]), []))
    else
    none := by kernel_rfl
theorem fn14 (n : Nat) (a1 : List (List D1)) (b2 : List (List D1)) (rho3 : Int) (steps4 : Int) : (lvl Try.prog HH (n + 1)).2 14 [.s (.one (.fr 3 a1)), .s (.one (.fr 3 b2)), .s (.one (.v (.int .i64 rho3))), .s (.one (.v (.int .i64 steps4)))] [] =
    callT (lvl Try.prog HH (n + 0)).2 26 [.s (.one (.fr 3 a1))] [] outs26 mouts26 fun y5 m6 =>
    bif !y5.1 then (
      some (.s (.agg true [.v (.int .i64 0), .v (.int .i64 0), .v (.int .i64 0), .v (.int .i64 0), .fr 1 [], .fr 1 [], .v (.int .i64 0)]), []))
    else
    callT (lvl Try.prog HH (n + 0)).2 26 [.s (.one (.fr 3 b2))] [] outs26 mouts26 fun y7 m8 =>
    bif !y7.1 then (
      some (.s (.agg true [.v (.int .i64 0), .v (.int .i64 0), .v (.int .i64 0), .v (.int .i64 0), .fr 1 [], .fr 1 [], .v (.int .i64 0)]), []))
    else
    bif decide (rho3 < 0) then (
      some (.s (.agg true [.v (.int .i64 0), .v (.int .i64 0), .v (.int .i64 0), .v (.int .i64 0), .fr 1 [], .fr 1 [], .v (.int .i64 0)]), []))
    else
    bif decide (rho3 > 2097152) then (
      some (.s (.agg true [.v (.int .i64 0), .v (.int .i64 0), .v (.int .i64 0), .v (.int .i64 0), .fr 1 [], .fr 1 [], .v (.int .i64 0)]), []))
    else
    bif decide (steps4 < 0) then (
      some (.s (.agg true [.v (.int .i64 0), .v (.int .i64 0), .v (.int .i64 0), .v (.int .i64 0), .fr 1 [], .fr 1 [], .v (.int .i64 0)]), []))
    else
    bif decide (steps4 > 64) then (
      some (.s (.agg true [.v (.int .i64 0), .v (.int .i64 0), .v (.int .i64 0), .v (.int .i64 0), .fr 1 [], .fr 1 [], .v (.int .i64 0)]), []))
    else
    callT (lvl Try.prog HH (n + 0)).2 27 [.s (.one (.v (.int .i64 (((a1.length : Nat) : Int)))))] [] outs27 mouts27 fun y9 m10 =>
    callT (lvl Try.prog HH (n + 0)).2 27 [.s (.one (.v (.int .i64 (((b2.length : Nat) : Int)))))] [] outs27 mouts27 fun y11 m12 =>
    callT (lvl Try.prog HH (n + 0)).2 28 [.s (.one (.ptr 0 0 0))] [.own 10 false [[.fs 1, .fs 2, .fr 3 a1, .fr 3 b2, .v (.int .i64 rho3), .v (.int .i64 steps4), .v (.int .i64 0), .v (.int .i64 0), .v (.int .i64 0), .v (.int .i64 0)]], .own 1 true m10.1, .own 1 true m12.1] outs28 mouts28 fun y13 m14 =>
    ((lvl Try.prog HH (n + 0)).1 ⟨14, 0, true⟩ 0 (loopOf Try.f14 0) (encSt S14_0 (((), (), y13.1, y13.2.1, ()), ((0, 0, 0, 0, (.v (.slice none 0 0)), (.v (.slice none 0 0)), 0, ()), ((), (), m14.1.2.2.1, m14.1.2.2.2.1, m14.1.2.2.2.2.1, m14.1.2.2.2.2.2.1, m14.1.2.2.2.2.2.2.1, m14.1.2.2.2.2.2.2.2.1, m14.1.2.2.2.2.2.2.2.2.1, m14.1.2.2.2.2.2.2.2.2.2.1, ()), m14.2.1, m14.2.2.1, ())))).bind fun p36 =>
    bif sameEx (.exit 0) p36.1 then (decSt S14_0_e0 p36.2 fun x37 =>
      some (.s (.agg true [.v (.int .i64 x37.1.2.2.1), .v (.int .i64 x37.2.2.1.2.2.2.2.2.2.2.1), .v (.int .i64 x37.2.2.1.2.2.2.2.2.2.2.2.1), .v (.int .i64 x37.2.2.1.2.2.2.2.2.2.2.2.2.1), .fr 1 x37.2.2.2.1, .fr 1 x37.2.2.2.2.1, .v (.int .i64 x37.2.2.1.2.2.2.2.2.2.1)]), []))
    else
    none := by
  have h := fn14_w (fun x => x) (fun x => x) n a1 b2 rho3 steps4
  rw [lvlW_id] at h
  exact h

/-! armplan/armplanref1.Clamp -/
theorem fn74 (n : Nat) (a1 : Int) : (lvl Try.prog HH (n + 1)).2 74 [.s (.one (.v (.int .i64 a1)))] [] =
    letIn (if 2147483648 < a1 then 2147483648 else a1 : Int) fun n2 =>
    letIn (if n2 > (-2147483648) then n2 else (-2147483648) : Int) fun n3 =>
    some (.s (.one (.v (.int .i64 n3))), []) := by kernel_rfl

/-! armplan/armplanref1.Of -/
theorem fn60 (n : Nat) (x1 : Int) : (lvl Try.prog HH (n + 1)).2 60 [.s (.one (.v (.int .i64 x1)))] [] =
    callT (lvl Try.prog HH (n + 0)).2 74 [.s (.one (.v (.int .i64 x1)))] [] outs74 mouts74 fun y2 m3 =>
    callT (lvl Try.prog HH (n + 0)).2 74 [.s (.one (.v (.int .i64 x1)))] [] outs74 mouts74 fun y4 m5 =>
    some (.s (.agg true [.v (.int .i64 y2.1), .v (.int .i64 y4.1)]), []) := by kernel_rfl

/-! armplan/armplanref1.Point -/
theorem fn33 (n : Nat) (v1 : Int) (v2 : Int) (v3 : Int) : (lvl Try.prog HH (n + 1)).2 33 [.s (.agg true [.v (.int .i64 v1), .v (.int .i64 v2), .v (.int .i64 v3)])] [] =
    callT (lvl Try.prog HH (n + 0)).2 60 [.s (.one (.v (.int .i64 v1)))] [] outs60 mouts60 fun y4 m5 =>
    callT (lvl Try.prog HH (n + 0)).2 60 [.s (.one (.v (.int .i64 v2)))] [] outs60 mouts60 fun y6 m7 =>
    callT (lvl Try.prog HH (n + 0)).2 60 [.s (.one (.v (.int .i64 v3)))] [] outs60 mouts60 fun y8 m9 =>
    some (.s (.agg true [.v (.int .i64 y4.1.1), .v (.int .i64 y4.1.2.1), .v (.int .i64 y6.1.1), .v (.int .i64 y6.1.2.1), .v (.int .i64 y8.1.1), .v (.int .i64 y8.1.2.1)]), []) := by kernel_rfl

/-! armplan/armplanmake.Boxed -/
theorem loop17_0 (n : Nat) (v2 : List (List D1)) (v3 : Int) (es4 : List (List D1)) : (lvl Try.prog HH (n + 1)).1 ⟨17, 0, true⟩ 0 (loopOf Try.f17 0) (encSt S17_0 ((v2, (), v3, ()), (es4, ()))) =
    bif decide (v3 < (((v2.length : Nat) : Int))) then (
      bif decide (0 ≤ v3) then (
        (nth v2 v3.toNat).bind fun cs5 =>
        bif Nat.beq ((cs5.drop 0).take 3).length 3 then (
          decCts [.int .i64, .int .i64, .int .i64] ((cs5.drop 0).take 3) fun c6 =>
          callT (lvl Try.prog HH (n + 0)).2 33 [.s (.agg true [.v (.int .i64 c6.1), .v (.int .i64 c6.2.1), .v (.int .i64 c6.2.2.1)])] [] outs33 mouts33 fun y7 m8 =>
          bif decide ((es4.length + 1) * 48 ≤ 140737488355328) then (
            letIn (IntKind.wrap .i64 (v3 + 1) : Int) fun n9 =>
            (lvl Try.prog HH (n + 0)).1 ⟨17, 0, true⟩ 0 (loopOf Try.f17 0) (encSt S17_0 ((v2, (), n9, ()), ((es4 ++ ([[.v (.int .i64 y7.1.1), .v (.int .i64 y7.1.2.1), .v (.int .i64 y7.1.2.2.1), .v (.int .i64 y7.1.2.2.2.1), .v (.int .i64 y7.1.2.2.2.2.1), .v (.int .i64 y7.1.2.2.2.2.2.1)]] : List (List D1))), ()))))
          else
          none)
        else
        none)
      else
      none)
    else
    some (.exit 0, encSt S17_0_e0 (((), ()), (es4, ()))) := by kernel_rfl

theorem fn17 (n : Nat) (l1 : List (List D1)) : (lvl Try.prog HH (n + 1)).2 17 [.s (.one (.fr 3 l1))] [] =
    ((lvl Try.prog HH (n + 0)).1 ⟨17, 0, true⟩ 0 (loopOf Try.f17 0) (encSt S17_0 ((l1, (), 0, ()), ([], ())))).bind fun p10 =>
    bif sameEx (.exit 0) p10.1 then (decSt S17_0_e0 p10.2 fun x11 =>
      some (.s (.one (.fr 6 x11.2.1)), []))
    else
    none := by kernel_rfl

/-! armplan/armplanref6.Near -/
theorem fn58 (n : Nat) (v1 : Int) (v2 : Int) (v3 : Int) (most4 : Int) : (lvl Try.prog HH (n + 5)).2 58 [.s (.agg true [.v (.int .i64 v1), .v (.int .i64 v2), .v (.int .i64 v3)]), .s (.one (.v (.int .i64 most4)))] [] =
    Option.bind (
      letIn (IntKind.wrap .i64 (0 - most4) : Int) fun n5 =>
      bif decide (v1 < n5) then (
        some (.ret, encSt S58_0_r ((false, ()), ())))
      else
      bif decide (v1 > most4) then (
        some (.ret, encSt S58_0_r ((false, ()), ())))
      else
      letIn (IntKind.wrap .i64 (0 - most4) : Int) fun n6 =>
      bif decide (v2 < n6) then (
        some (.ret, encSt S58_0_r ((false, ()), ())))
      else
      bif decide (v2 > most4) then (
        some (.ret, encSt S58_0_r ((false, ()), ())))
      else
      letIn (IntKind.wrap .i64 (0 - most4) : Int) fun n7 =>
      bif decide (v3 < n7) then (
        some (.ret, encSt S58_0_r ((false, ()), ())))
      else
      bif decide (v3 > most4) then (
        some (.ret, encSt S58_0_r ((false, ()), ())))
      else
      some (.exit 0, encSt S58_0_e0 ((), ()))) fun p8 =>
    bif sameEx (.ret) p8.1 then (decSt S58_0_r p8.2 fun x9 =>
      some (.s (.one (.v (.bool x9.1.1))), []))
    else
    bif sameEx (.exit 0) p8.1 then (decSt S58_0_e0 p8.2 fun x10 =>
      some (.s (.one (.v (.bool true))), []))
    else
    none := by kernel_rfl

/-! armplan/armplanref10.Usable -/
theorem fn30 (n : Nat) (n1 : Int) (n2 : Int) (n3 : Int) : (lvl Try.prog HH (n + 1)).2 30 [.s (.agg true [.v (.int .i64 n1), .v (.int .i64 n2), .v (.int .i64 n3)])] [] =
    letIn (!((n1 == 0) && ((n2 == 0) && ((n3 == 0) && true))) : Bool) fun b4 =>
    bif b4 then (
      callT (lvl Try.prog HH (n + 0)).2 58 [.s (.agg true [.v (.int .i64 n1), .v (.int .i64 n2), .v (.int .i64 n3)]), .s (.one (.v (.int .i64 16384)))] [] outs58 mouts58 fun y5 m6 =>
      some (.s (.one (.v (.bool y5.1))), []))
    else
    some (.s (.one (.v (.bool false))), []) := by kernel_rfl

/-! armplan/armplanref10.reached -/
theorem fn59 (n : Nat) (v1 : Int) (v2 : Int) (v3 : Int) (v4 : Int) (v5 : Int) (v6 : Int) : (lvl Try.prog HH (n + 5)).2 59 [.s (.agg true [.v (.int .i64 v1), .v (.int .i64 v2), .v (.int .i64 v3), .v (.int .i64 v4), .v (.int .i64 v5), .v (.int .i64 v6)])] [] =
    Option.bind (
      bif decide (v1 < (-268435456)) then (
        some (.ret, encSt S59_0_r ((false, ()), ())))
      else
      bif decide (v1 > v2) then (
        some (.ret, encSt S59_0_r ((false, ()), ())))
      else
      bif decide (v2 > 268435456) then (
        some (.ret, encSt S59_0_r ((false, ()), ())))
      else
      bif decide (v3 < (-268435456)) then (
        some (.ret, encSt S59_0_r ((false, ()), ())))
      else
      bif decide (v3 > v4) then (
        some (.ret, encSt S59_0_r ((false, ()), ())))
      else
      bif decide (v4 > 268435456) then (
        some (.ret, encSt S59_0_r ((false, ()), ())))
      else
      bif decide (v5 < (-268435456)) then (
        some (.ret, encSt S59_0_r ((false, ()), ())))
      else
      bif decide (v5 > v6) then (
        some (.ret, encSt S59_0_r ((false, ()), ())))
      else
      bif decide (v6 > 268435456) then (
        some (.ret, encSt S59_0_r ((false, ()), ())))
      else
      some (.exit 0, encSt S59_0_e0 ((), ()))) fun p7 =>
    bif sameEx (.ret) p7.1 then (decSt S59_0_r p7.2 fun x8 =>
      some (.s (.one (.v (.bool x8.1.1))), []))
    else
    bif sameEx (.exit 0) p7.1 then (decSt S59_0_e0 p7.2 fun x9 =>
      some (.s (.one (.v (.bool true))), []))
    else
    none := by kernel_rfl

/-! armplan/armplanref10.Placed -/
theorem loop31_0 (n : Nat) (v2 : List (List D1)) (v3 : Int) : (lvl Try.prog HH (n + 1)).1 ⟨31, 0, true⟩ 0 (loopOf Try.f31 0) (encSt S31_0 ((v2, v3, ()), ())) =
    bif decide (v3 < (((v2.length : Nat) : Int))) then (
      bif decide (v3 ≤ 8) then (
        bif decide (0 ≤ v3) then (
          (nth v2 v3.toNat).bind fun cs4 =>
          bif Nat.beq ((cs4.drop 0).take 6).length 6 then (
            decCts [.int .i64, .int .i64, .int .i64, .int .i64, .int .i64, .int .i64] ((cs4.drop 0).take 6) fun c5 =>
            callT (lvl Try.prog HH (n + 0)).2 59 [.s (.agg true [.v (.int .i64 c5.1), .v (.int .i64 c5.2.1), .v (.int .i64 c5.2.2.1), .v (.int .i64 c5.2.2.2.1), .v (.int .i64 c5.2.2.2.2.1), .v (.int .i64 c5.2.2.2.2.2.1)])] [] outs59 mouts59 fun y6 m7 =>
            bif !y6.1 then (
              some (.ret, encSt S31_0_r ((false, ()), ())))
            else
            letIn (IntKind.wrap .i64 (v3 + 1) : Int) fun n8 =>
            (lvl Try.prog HH (n + 0)).1 ⟨31, 0, true⟩ 0 (loopOf Try.f31 0) (encSt S31_0 ((v2, n8, ()), ())))
          else
          none)
        else
        none)
      else
      some (.exit 0, encSt S31_0_e0 ((v2, ()), ())))
    else
    some (.exit 0, encSt S31_0_e0 ((v2, ()), ())) := by kernel_rfl

theorem fn31 (n : Nat) (l1 : List (List D1)) : (lvl Try.prog HH (n + 1)).2 31 [.s (.one (.fr 6 l1))] [] =
    ((lvl Try.prog HH (n + 0)).1 ⟨31, 0, true⟩ 0 (loopOf Try.f31 0) (encSt S31_0 ((l1, 0, ()), ()))).bind fun p9 =>
    bif sameEx (.ret) p9.1 then (decSt S31_0_r p9.2 fun x10 =>
      some (.s (.one (.v (.bool x10.1.1))), []))
    else
    bif sameEx (.exit 0) p9.1 then (decSt S31_0_e0 p9.2 fun x11 =>
      bif decide ((((x11.1.1.length : Nat) : Int)) ≥ 1) then (
        some (.s (.one (.v (.bool (decide ((((x11.1.1.length : Nat) : Int)) ≤ 8))))), []))
      else
      some (.s (.one (.v (.bool false))), []))
    else
    none := by kernel_rfl

/-! armplan/armplanref10.Dot -/
theorem fn32 (n : Nat) (n1 : Int) (n2 : Int) (n3 : Int) (v4 : Int) (v5 : Int) (v6 : Int) (v7 : Int) (v8 : Int) (v9 : Int) : (lvl Try.prog HH (n + 5)).2 32 [.s (.agg true [.v (.int .i64 n1), .v (.int .i64 n2), .v (.int .i64 n3)]), .s (.agg true [.v (.int .i64 v4), .v (.int .i64 v5), .v (.int .i64 v6), .v (.int .i64 v7), .v (.int .i64 v8), .v (.int .i64 v9)])] [] =
    callT (lvl Try.prog HH (n + 4)).2 30 [.s (.agg true [.v (.int .i64 n1), .v (.int .i64 n2), .v (.int .i64 n3)])] [] outs30 mouts30 fun y10 m11 =>
    bif !y10.1 then (
      some (.tup [.one (.v (.int .i64 0)), .one (.v (.int .i64 0))], []))
    else
    callT (lvl Try.prog HH (n + 4)).2 59 [.s (.agg true [.v (.int .i64 v4), .v (.int .i64 v5), .v (.int .i64 v6), .v (.int .i64 v7), .v (.int .i64 v8), .v (.int .i64 v9)])] [] outs59 mouts59 fun y12 m13 =>
    bif !y12.1 then (
      some (.tup [.one (.v (.int .i64 0)), .one (.v (.int .i64 0))], []))
    else
    letIn (IntKind.wrap .i64 (n1 * v4) : Int) fun n14 =>
    letIn (IntKind.wrap .i64 (n1 * v5) : Int) fun n15 =>
    letIn (if n15 < n14 then n15 else n14 : Int) fun n16 =>
    letIn (IntKind.wrap .i64 (0 + n16) : Int) fun n17 =>
    letIn (if n15 > n14 then n15 else n14 : Int) fun n18 =>
    letIn (IntKind.wrap .i64 (0 + n18) : Int) fun n19 =>
    letIn (IntKind.wrap .i64 (n2 * v6) : Int) fun n20 =>
    letIn (IntKind.wrap .i64 (n2 * v7) : Int) fun n21 =>
    letIn (if n21 < n20 then n21 else n20 : Int) fun n22 =>
    letIn (IntKind.wrap .i64 (n17 + n22) : Int) fun n23 =>
    letIn (if n21 > n20 then n21 else n20 : Int) fun n24 =>
    letIn (IntKind.wrap .i64 (n19 + n24) : Int) fun n25 =>
    letIn (IntKind.wrap .i64 (n3 * v8) : Int) fun n26 =>
    letIn (IntKind.wrap .i64 (n3 * v9) : Int) fun n27 =>
    letIn (if n27 < n26 then n27 else n26 : Int) fun n28 =>
    letIn (IntKind.wrap .i64 (n23 + n28) : Int) fun n29 =>
    letIn (if n27 > n26 then n27 else n26 : Int) fun n30 =>
    letIn (IntKind.wrap .i64 (n25 + n30) : Int) fun n31 =>
    some (.tup [.one (.v (.int .i64 n29)), .one (.v (.int .i64 n31))], []) := by kernel_rfl

/-! armplan/armplanref10.Least -/
theorem loop16_0 (n : Nat) (v9 : List (List D1)) (v10 : Int) (v11 : Int) (v12 : Int) (c13 : Int) (c14 : Int) (c15 : Int) : (lvl Try.prog HH (n + 1)).1 ⟨16, 0, true⟩ 0 (loopOf Try.f16 0) (encSt S16_0 ((v9, (), v10, v11, v12, ()), ((c13, c14, c15, ()), ()))) =
    bif decide (v12 < (((v9.length : Nat) : Int))) then (
      bif decide (0 ≤ v12) then (
        (nth v9 v12.toNat).bind fun cs16 =>
        bif Nat.beq ((cs16.drop 0).take 6).length 6 then (
          decCts [.int .i64, .int .i64, .int .i64, .int .i64, .int .i64, .int .i64] ((cs16.drop 0).take 6) fun c17 =>
          callT (lvl Try.prog HH (n + 0)).2 32 [.s (.agg true [.v (.int .i64 c13), .v (.int .i64 c14), .v (.int .i64 c15)]), .s (.agg true [.v (.int .i64 c17.1), .v (.int .i64 c17.2.1), .v (.int .i64 c17.2.2.1), .v (.int .i64 c17.2.2.2.1), .v (.int .i64 c17.2.2.2.2.1), .v (.int .i64 c17.2.2.2.2.2.1)])] [] outs32 mouts32 fun y18 m19 =>
          bif v12 == 0 then (
            letIn (IntKind.wrap .i64 (v12 + 1) : Int) fun n20 =>
            (lvl Try.prog HH (n + 0)).1 ⟨16, 0, true⟩ 0 (loopOf Try.f16 0) (encSt S16_0 ((v9, (), y18.1, v12, n20, ()), ((c13, c14, c15, ()), ()))))
          else
          bif decide (y18.1 < v10) then (
            letIn (IntKind.wrap .i64 (v12 + 1) : Int) fun n21 =>
            (lvl Try.prog HH (n + 0)).1 ⟨16, 0, true⟩ 0 (loopOf Try.f16 0) (encSt S16_0 ((v9, (), y18.1, v12, n21, ()), ((c13, c14, c15, ()), ()))))
          else
          letIn (IntKind.wrap .i64 (v12 + 1) : Int) fun n22 =>
          (lvl Try.prog HH (n + 0)).1 ⟨16, 0, true⟩ 0 (loopOf Try.f16 0) (encSt S16_0 ((v9, (), v10, v11, n22, ()), ((c13, c14, c15, ()), ()))))
        else
        none)
      else
      none)
    else
    some (.exit 0, encSt S16_0_e0 ((v10, v11, ()), ())) := by kernel_rfl

theorem fn16 (n : Nat) (n1 : Int) (n2 : Int) (n3 : Int) (l4 : List (List D1)) : (lvl Try.prog HH (n + 1)).2 16 [.s (.agg true [.v (.int .i64 n1), .v (.int .i64 n2), .v (.int .i64 n3)]), .s (.one (.fr 6 l4))] [] =
    callT (lvl Try.prog HH (n + 0)).2 30 [.s (.agg true [.v (.int .i64 n1), .v (.int .i64 n2), .v (.int .i64 n3)])] [] outs30 mouts30 fun y5 m6 =>
    bif !y5.1 then (
      some (.tup [.one (.v (.int .i64 0)), .one (.v (.int .i64 0)), .one (.v (.bool false))], []))
    else
    callT (lvl Try.prog HH (n + 0)).2 31 [.s (.one (.fr 6 l4))] [] outs31 mouts31 fun y7 m8 =>
    bif !y7.1 then (
      some (.tup [.one (.v (.int .i64 0)), .one (.v (.int .i64 0)), .one (.v (.bool false))], []))
    else
    ((lvl Try.prog HH (n + 0)).1 ⟨16, 0, true⟩ 0 (loopOf Try.f16 0) (encSt S16_0 ((l4, (), 0, 0, 0, ()), ((n1, n2, n3, ()), ())))).bind fun p23 =>
    bif sameEx (.exit 0) p23.1 then (decSt S16_0_e0 p23.2 fun x24 =>
      some (.tup [.one (.v (.int .i64 x24.1.1)), .one (.v (.int .i64 x24.1.2.1)), .one (.v (.bool true))], []))
    else
    none := by kernel_rfl

/-! armplan/armplanref10.Greatest -/
theorem loop18_0 (n : Nat) (v9 : List (List D1)) (v10 : Int) (v11 : Int) (v12 : Int) (c13 : Int) (c14 : Int) (c15 : Int) : (lvl Try.prog HH (n + 1)).1 ⟨18, 0, true⟩ 0 (loopOf Try.f18 0) (encSt S18_0 ((v9, (), v10, v11, v12, ()), ((c13, c14, c15, ()), ()))) =
    bif decide (v12 < (((v9.length : Nat) : Int))) then (
      bif decide (0 ≤ v12) then (
        (nth v9 v12.toNat).bind fun cs16 =>
        bif Nat.beq ((cs16.drop 0).take 6).length 6 then (
          decCts [.int .i64, .int .i64, .int .i64, .int .i64, .int .i64, .int .i64] ((cs16.drop 0).take 6) fun c17 =>
          callT (lvl Try.prog HH (n + 0)).2 32 [.s (.agg true [.v (.int .i64 c13), .v (.int .i64 c14), .v (.int .i64 c15)]), .s (.agg true [.v (.int .i64 c17.1), .v (.int .i64 c17.2.1), .v (.int .i64 c17.2.2.1), .v (.int .i64 c17.2.2.2.1), .v (.int .i64 c17.2.2.2.2.1), .v (.int .i64 c17.2.2.2.2.2.1)])] [] outs32 mouts32 fun y18 m19 =>
          bif v12 == 0 then (
            letIn (IntKind.wrap .i64 (v12 + 1) : Int) fun n20 =>
            (lvl Try.prog HH (n + 0)).1 ⟨18, 0, true⟩ 0 (loopOf Try.f18 0) (encSt S18_0 ((v9, (), y18.2.1, v12, n20, ()), ((c13, c14, c15, ()), ()))))
          else
          bif decide (y18.2.1 > v10) then (
            letIn (IntKind.wrap .i64 (v12 + 1) : Int) fun n21 =>
            (lvl Try.prog HH (n + 0)).1 ⟨18, 0, true⟩ 0 (loopOf Try.f18 0) (encSt S18_0 ((v9, (), y18.2.1, v12, n21, ()), ((c13, c14, c15, ()), ()))))
          else
          letIn (IntKind.wrap .i64 (v12 + 1) : Int) fun n22 =>
          (lvl Try.prog HH (n + 0)).1 ⟨18, 0, true⟩ 0 (loopOf Try.f18 0) (encSt S18_0 ((v9, (), v10, v11, n22, ()), ((c13, c14, c15, ()), ()))))
        else
        none)
      else
      none)
    else
    some (.exit 0, encSt S18_0_e0 ((v10, v11, ()), ())) := by kernel_rfl

theorem fn18 (n : Nat) (n1 : Int) (n2 : Int) (n3 : Int) (l4 : List (List D1)) : (lvl Try.prog HH (n + 1)).2 18 [.s (.agg true [.v (.int .i64 n1), .v (.int .i64 n2), .v (.int .i64 n3)]), .s (.one (.fr 6 l4))] [] =
    callT (lvl Try.prog HH (n + 0)).2 30 [.s (.agg true [.v (.int .i64 n1), .v (.int .i64 n2), .v (.int .i64 n3)])] [] outs30 mouts30 fun y5 m6 =>
    bif !y5.1 then (
      some (.tup [.one (.v (.int .i64 0)), .one (.v (.int .i64 0)), .one (.v (.bool false))], []))
    else
    callT (lvl Try.prog HH (n + 0)).2 31 [.s (.one (.fr 6 l4))] [] outs31 mouts31 fun y7 m8 =>
    bif !y7.1 then (
      some (.tup [.one (.v (.int .i64 0)), .one (.v (.int .i64 0)), .one (.v (.bool false))], []))
    else
    ((lvl Try.prog HH (n + 0)).1 ⟨18, 0, true⟩ 0 (loopOf Try.f18 0) (encSt S18_0 ((l4, (), 0, 0, 0, ()), ((n1, n2, n3, ()), ())))).bind fun p23 =>
    bif sameEx (.exit 0) p23.1 then (decSt S18_0_e0 p23.2 fun x24 =>
      some (.tup [.one (.v (.int .i64 x24.1.1)), .one (.v (.int .i64 x24.1.2.1)), .one (.v (.bool true))], []))
    else
    none := by kernel_rfl

/-! armplan/armplanlaw14.awake -/
theorem fn12 (n : Nat)  : (lvl Try.prog HH (n + 1)).2 12 [] [] =
    callT (lvl Try.prog HH (n + 0)).2 14 [.s (.one (.fr 3 [[.v (.int .i64 0), .v (.int .i64 0), .v (.int .i64 0)]])), .s (.one (.fr 3 [[.v (.int .i64 10), .v (.int .i64 0), .v (.int .i64 0)]])), .s (.one (.v (.int .i64 3))), .s (.one (.v (.int .i64 5)))] [] outs14 mouts14 fun y1 m2 =>
    callT (lvl Try.prog HH (n + 0)).2 14 [.s (.one (.fr 3 [[.v (.int .i64 0), .v (.int .i64 0), .v (.int .i64 0)]])), .s (.one (.fr 3 [[.v (.int .i64 10), .v (.int .i64 0), .v (.int .i64 0)]])), .s (.one (.v (.int .i64 10))), .s (.one (.v (.int .i64 5)))] [] outs14 mouts14 fun y3 m4 =>
    bif y1.1.1 == 1 then (
      letIn ((y1.1.2.1 == (-10)) && ((y1.1.2.2.1 == 0) && ((y1.1.2.2.2.1 == 0) && true)) : Bool) fun b5 =>
      bif b5 then (
        some (.s (.one (.v (.bool (y3.1.1 == 2)))), []))
      else
      some (.s (.one (.v (.bool false))), []))
    else
    some (.s (.one (.v (.bool false))), []) := by kernel_rfl

/-! armplan/armplanref1.Root -/
theorem loop61_0 (n : Nat) (v2 : Int) (v3 : Int) (v4 : Int) : (lvl Try.prog HH (n + 1)).1 ⟨61, 0, true⟩ 0 (loopOf Try.f61 0) (encSt S61_0 ((v2, v3, v4, ()), ())) =
    letIn (IntKind.wrap .i64 (v4 - v3) : Int) fun n5 =>
    bif decide (n5 > 1) then (
      letIn (IntKind.wrap .i64 (v4 - v3) : Int) fun n6 =>
      letIn (IntKind.wrap .i64 (Int.tdiv n6 2) : Int) fun n7 =>
      letIn (IntKind.wrap .i64 (v3 + n7) : Int) fun n8 =>
      bif n8 == 0 then (
        none)
      else
      letIn (IntKind.wrap .i64 (Int.tdiv v2 n8) : Int) fun n9 =>
      bif decide (n8 ≤ n9) then (
        (lvl Try.prog HH (n + 0)).1 ⟨61, 0, true⟩ 0 (loopOf Try.f61 0) (encSt S61_0 ((v2, n8, v4, ()), ())))
      else
      (lvl Try.prog HH (n + 0)).1 ⟨61, 0, true⟩ 0 (loopOf Try.f61 0) (encSt S61_0 ((v2, v3, n8, ()), ())))
    else
    some (.exit 0, encSt S61_0_e0 ((v3, ()), ())) := by kernel_rfl

theorem fn61 (n : Nat) (n1 : Int) : (lvl Try.prog HH (n + 1)).2 61 [.s (.one (.v (.int .i64 n1)))] [] =
    bif decide (n1 < 1) then (
      some (.s (.one (.v (.int .i64 0))), []))
    else
    ((lvl Try.prog HH (n + 0)).1 ⟨61, 0, true⟩ 0 (loopOf Try.f61 0) (encSt S61_0 ((n1, 1, 4294967296, ()), ()))).bind fun p10 =>
    bif sameEx (.exit 0) p10.1 then (decSt S61_0_e0 p10.2 fun x11 =>
      some (.s (.one (.v (.int .i64 x11.1.1))), []))
    else
    none := by kernel_rfl

/-! armplan/armplanref1.RootUp -/
theorem fn34 (n : Nat) (n1 : Int) : (lvl Try.prog HH (n + 1)).2 34 [.s (.one (.v (.int .i64 n1)))] [] =
    callT (lvl Try.prog HH (n + 0)).2 61 [.s (.one (.v (.int .i64 n1)))] [] outs61 mouts61 fun y2 m3 =>
    bif decide (n1 > 0) then (
      letIn (IntKind.wrap .i64 (y2.1 * y2.1) : Int) fun n4 =>
      bif decide (n4 < n1) then (
        letIn (IntKind.wrap .i64 (y2.1 + 1) : Int) fun n5 =>
        some (.s (.one (.v (.int .i64 n5))), []))
      else
      some (.s (.one (.v (.int .i64 y2.1))), []))
    else
    some (.s (.one (.v (.int .i64 y2.1))), []) := by kernel_rfl

/-! armplan/armplanref10.Norm -/
theorem fn19 (n : Nat) (n1 : Int) (n2 : Int) (n3 : Int) : (lvl Try.prog HH (n + 1)).2 19 [.s (.agg true [.v (.int .i64 n1), .v (.int .i64 n2), .v (.int .i64 n3)])] [] =
    callT (lvl Try.prog HH (n + 0)).2 30 [.s (.agg true [.v (.int .i64 n1), .v (.int .i64 n2), .v (.int .i64 n3)])] [] outs30 mouts30 fun y4 m5 =>
    bif !y4.1 then (
      some (.s (.one (.v (.int .i64 0))), []))
    else
    letIn (IntKind.wrap .i64 (n1 * n1) : Int) fun n6 =>
    letIn (IntKind.wrap .i64 (n2 * n2) : Int) fun n7 =>
    letIn (IntKind.wrap .i64 (n6 + n7) : Int) fun n8 =>
    letIn (IntKind.wrap .i64 (n3 * n3) : Int) fun n9 =>
    letIn (IntKind.wrap .i64 (n8 + n9) : Int) fun n10 =>
    callT (lvl Try.prog HH (n + 0)).2 34 [.s (.one (.v (.int .i64 n10)))] [] outs34 mouts34 fun y11 m12 =>
    some (.s (.one (.v (.int .i64 y11.1))), []) := by kernel_rfl

end Go.Proofs.Ytcldcnolhmmegaa.Am
