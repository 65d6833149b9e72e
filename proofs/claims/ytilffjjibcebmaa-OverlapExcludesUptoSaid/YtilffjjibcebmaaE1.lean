/- PRINTED by amprint.py: what the abstract machine answers, function by function. -/
import Derived.Test.YtilffjjibcebmaaH
import Derived.KernelRfl
set_option linter.unusedVariables false
set_option maxRecDepth 100000
namespace Go.Proofs.Ytilffjjibcebmaa.Am
open Go Go.Proofs

/-! armplan/armplanref6.Near -/
theorem fn42 (n : Nat) (v1 : Int) (v2 : Int) (v3 : Int) (most4 : Int) : (lvl Try.prog HH (n + 5)).2 42 [.s (.agg true [.v (.int .i64 v1), .v (.int .i64 v2), .v (.int .i64 v3)]), .s (.one (.v (.int .i64 most4)))] [] =
    Option.bind (
      letIn (IntKind.wrap .i64 (0 - most4) : Int) fun n5 =>
      bif decide (v1 < n5) then (
        some (.ret, encSt S42_0_r ((false, ()), ())))
      else
      bif decide (v1 > most4) then (
        some (.ret, encSt S42_0_r ((false, ()), ())))
      else
      letIn (IntKind.wrap .i64 (0 - most4) : Int) fun n6 =>
      bif decide (v2 < n6) then (
        some (.ret, encSt S42_0_r ((false, ()), ())))
      else
      bif decide (v2 > most4) then (
        some (.ret, encSt S42_0_r ((false, ()), ())))
      else
      letIn (IntKind.wrap .i64 (0 - most4) : Int) fun n7 =>
      bif decide (v3 < n7) then (
        some (.ret, encSt S42_0_r ((false, ()), ())))
      else
      bif decide (v3 > most4) then (
        some (.ret, encSt S42_0_r ((false, ()), ())))
      else
      some (.exit 0, encSt S42_0_e0 ((), ()))) fun p8 =>
    bif sameEx (.ret) p8.1 then (decSt S42_0_r p8.2 fun x9 =>
      some (.s (.one (.v (.bool x9.1.1))), []))
    else
    bif sameEx (.exit 0) p8.1 then (decSt S42_0_e0 p8.2 fun x10 =>
      some (.s (.one (.v (.bool true))), []))
    else
    none := by kernel_rfl

/-! armplan/armplanref10.Usable -/
theorem fn35 (n : Nat) (n1 : Int) (n2 : Int) (n3 : Int) : (lvl Try.prog HH (n + 1)).2 35 [.s (.agg true [.v (.int .i64 n1), .v (.int .i64 n2), .v (.int .i64 n3)])] [] =
    letIn (!((n1 == 0) && ((n2 == 0) && ((n3 == 0) && true))) : Bool) fun b4 =>
    bif b4 then (
      callT (lvl Try.prog HH (n + 0)).2 42 [.s (.agg true [.v (.int .i64 n1), .v (.int .i64 n2), .v (.int .i64 n3)]), .s (.one (.v (.int .i64 16384)))] [] outs42 mouts42 fun y5 m6 =>
      some (.s (.one (.v (.bool y5.1))), []))
    else
    some (.s (.one (.v (.bool false))), []) := by kernel_rfl

/-! armplan/armplanmake.Normal -/
theorem fn24_w (w : CallF → CallF) (v : LoopF → LoopF) (n : Nat) (a1 : Int) (b2 : Int) (c3 : Int) : (lvlW w v symL Try.prog HH (n + 1)).2 24 [.s (.one (.v (.int .i64 a1))), .s (.one (.v (.int .i64 b2))), .s (.one (.v (.int .i64 c3)))] [] =
    callT (w (lvlW w v symL Try.prog HH (n + 0)).2) 19 [.s (.one (.v (.int .i64 a1))), .s (.one (.v (.int .i64 41)))] [] outs19 mouts19 fun y4 m5 =>
    letIn (IntKind.wrap .i64 (y4.1 - 20) : Int) fun n6 =>
    callT (w (lvlW w v symL Try.prog HH (n + 0)).2) 19 [.s (.one (.v (.int .i64 b2))), .s (.one (.v (.int .i64 41)))] [] outs19 mouts19 fun y7 m8 =>
    letIn (IntKind.wrap .i64 (y7.1 - 20) : Int) fun n9 =>
    callT (w (lvlW w v symL Try.prog HH (n + 0)).2) 19 [.s (.one (.v (.int .i64 c3))), .s (.one (.v (.int .i64 41)))] [] outs19 mouts19 fun y10 m11 =>
    letIn (IntKind.wrap .i64 (y10.1 - 20) : Int) fun n12 =>
    letIn (IntKind.wrap .i64 ((BitVec.ofInt 64 a1 &&& BitVec.ofInt 64 8).toNat : Nat) : Int) fun n13 =>
    bif n13 == 8 then (
      callT (w (lvlW w v symL Try.prog HH (n + 0)).2) 19 [.s (.one (.v (.int .i64 a1))), .s (.one (.v (.int .i64 32769)))] [] outs19 mouts19 fun y14 m15 =>
      letIn (IntKind.wrap .i64 (y14.1 - 16384) : Int) fun n16 =>
      callT (w (lvlW w v symL Try.prog HH (n + 0)).2) 19 [.s (.one (.v (.int .i64 b2))), .s (.one (.v (.int .i64 32769)))] [] outs19 mouts19 fun y17 m18 =>
      letIn (IntKind.wrap .i64 (y17.1 - 16384) : Int) fun n19 =>
      callT (w (lvlW w v symL Try.prog HH (n + 0)).2) 19 [.s (.one (.v (.int .i64 c3))), .s (.one (.v (.int .i64 32769)))] [] outs19 mouts19 fun y20 m21 =>
      letIn (IntKind.wrap .i64 (y20.1 - 16384) : Int) fun n22 =>
      callT (w (lvlW w v symL Try.prog HH (n + 0)).2) 35 [.s (.agg true [.v (.int .i64 n16), .v (.int .i64 n19), .v (.int .i64 n22)])] [] outs35 mouts35 fun y23 m24 =>
      bif !y23.1 then (
        some (.s (.agg true [.v (.int .i64 1), .v (.int .i64 0), .v (.int .i64 0)]), []))
      else
      some (.s (.agg true [.v (.int .i64 n16), .v (.int .i64 n19), .v (.int .i64 n22)]), []))
    else
    callT (w (lvlW w v symL Try.prog HH (n + 0)).2) 35 [.s (.agg true [.v (.int .i64 n6), .v (.int .i64 n9), .v (.int .i64 n12)])] [] outs35 mouts35 fun y25 m26 =>
    bif !y25.1 then (
      some (.s (.agg true [.v (.int .i64 1), .v (.int .i64 0), .v (.int .i64 0)]), []))
    else
    some (.s (.agg true [.v (.int .i64 n6), .v (.int .i64 n9), .v (.int .i64 n12)]), []) := by kernel_rfl
theorem fn24 (n : Nat) (a1 : Int) (b2 : Int) (c3 : Int) : (lvl Try.prog HH (n + 1)).2 24 [.s (.one (.v (.int .i64 a1))), .s (.one (.v (.int .i64 b2))), .s (.one (.v (.int .i64 c3)))] [] =
    callT (lvl Try.prog HH (n + 0)).2 19 [.s (.one (.v (.int .i64 a1))), .s (.one (.v (.int .i64 41)))] [] outs19 mouts19 fun y4 m5 =>
    letIn (IntKind.wrap .i64 (y4.1 - 20) : Int) fun n6 =>
    callT (lvl Try.prog HH (n + 0)).2 19 [.s (.one (.v (.int .i64 b2))), .s (.one (.v (.int .i64 41)))] [] outs19 mouts19 fun y7 m8 =>
    letIn (IntKind.wrap .i64 (y7.1 - 20) : Int) fun n9 =>
    callT (lvl Try.prog HH (n + 0)).2 19 [.s (.one (.v (.int .i64 c3))), .s (.one (.v (.int .i64 41)))] [] outs19 mouts19 fun y10 m11 =>
    letIn (IntKind.wrap .i64 (y10.1 - 20) : Int) fun n12 =>
    letIn (IntKind.wrap .i64 ((BitVec.ofInt 64 a1 &&& BitVec.ofInt 64 8).toNat : Nat) : Int) fun n13 =>
    bif n13 == 8 then (
      callT (lvl Try.prog HH (n + 0)).2 19 [.s (.one (.v (.int .i64 a1))), .s (.one (.v (.int .i64 32769)))] [] outs19 mouts19 fun y14 m15 =>
      letIn (IntKind.wrap .i64 (y14.1 - 16384) : Int) fun n16 =>
      callT (lvl Try.prog HH (n + 0)).2 19 [.s (.one (.v (.int .i64 b2))), .s (.one (.v (.int .i64 32769)))] [] outs19 mouts19 fun y17 m18 =>
      letIn (IntKind.wrap .i64 (y17.1 - 16384) : Int) fun n19 =>
      callT (lvl Try.prog HH (n + 0)).2 19 [.s (.one (.v (.int .i64 c3))), .s (.one (.v (.int .i64 32769)))] [] outs19 mouts19 fun y20 m21 =>
      letIn (IntKind.wrap .i64 (y20.1 - 16384) : Int) fun n22 =>
      callT (lvl Try.prog HH (n + 0)).2 35 [.s (.agg true [.v (.int .i64 n16), .v (.int .i64 n19), .v (.int .i64 n22)])] [] outs35 mouts35 fun y23 m24 =>
      bif !y23.1 then (
        some (.s (.agg true [.v (.int .i64 1), .v (.int .i64 0), .v (.int .i64 0)]), []))
      else
      some (.s (.agg true [.v (.int .i64 n16), .v (.int .i64 n19), .v (.int .i64 n22)]), []))
    else
    callT (lvl Try.prog HH (n + 0)).2 35 [.s (.agg true [.v (.int .i64 n6), .v (.int .i64 n9), .v (.int .i64 n12)])] [] outs35 mouts35 fun y25 m26 =>
    bif !y25.1 then (
      some (.s (.agg true [.v (.int .i64 1), .v (.int .i64 0), .v (.int .i64 0)]), []))
    else
    some (.s (.agg true [.v (.int .i64 n6), .v (.int .i64 n9), .v (.int .i64 n12)]), []) := by
  have h := fn24_w (fun x => x) (fun x => x) n a1 b2 c3
  rw [lvlW_id] at h
  exact h

/-! armplan/armplanref1.Clamp -/
theorem fn52 (n : Nat) (a1 : Int) : (lvl Try.prog HH (n + 1)).2 52 [.s (.one (.v (.int .i64 a1)))] [] =
    letIn (if 2147483648 < a1 then 2147483648 else a1 : Int) fun n2 =>
    letIn (if n2 > (-2147483648) then n2 else (-2147483648) : Int) fun n3 =>
    some (.s (.one (.v (.int .i64 n3))), []) := by kernel_rfl

/-! armplan/armplanref1.Of -/
theorem fn44 (n : Nat) (x1 : Int) : (lvl Try.prog HH (n + 1)).2 44 [.s (.one (.v (.int .i64 x1)))] [] =
    callT (lvl Try.prog HH (n + 0)).2 52 [.s (.one (.v (.int .i64 x1)))] [] outs52 mouts52 fun y2 m3 =>
    callT (lvl Try.prog HH (n + 0)).2 52 [.s (.one (.v (.int .i64 x1)))] [] outs52 mouts52 fun y4 m5 =>
    some (.s (.agg true [.v (.int .i64 y2.1), .v (.int .i64 y4.1)]), []) := by kernel_rfl

/-! armplan/armplanref1.Point -/
theorem fn37 (n : Nat) (v1 : Int) (v2 : Int) (v3 : Int) : (lvl Try.prog HH (n + 1)).2 37 [.s (.agg true [.v (.int .i64 v1), .v (.int .i64 v2), .v (.int .i64 v3)])] [] =
    callT (lvl Try.prog HH (n + 0)).2 44 [.s (.one (.v (.int .i64 v1)))] [] outs44 mouts44 fun y4 m5 =>
    callT (lvl Try.prog HH (n + 0)).2 44 [.s (.one (.v (.int .i64 v2)))] [] outs44 mouts44 fun y6 m7 =>
    callT (lvl Try.prog HH (n + 0)).2 44 [.s (.one (.v (.int .i64 v3)))] [] outs44 mouts44 fun y8 m9 =>
    some (.s (.agg true [.v (.int .i64 y4.1.1), .v (.int .i64 y4.1.2.1), .v (.int .i64 y6.1.1), .v (.int .i64 y6.1.2.1), .v (.int .i64 y8.1.1), .v (.int .i64 y8.1.2.1)]), []) := by kernel_rfl

/-! armplan/armplanmake.Boxed -/
theorem loop29_0 (n : Nat) (v2 : List (List D1)) (v3 : Int) (es4 : List (List D1)) : (lvl Try.prog HH (n + 1)).1 ⟨29, 0, true⟩ 0 (loopOf Try.f29 0) (encSt S29_0 ((v2, (), v3, ()), (es4, ()))) =
    bif decide (v3 < (((v2.length : Nat) : Int))) then (
      bif decide (0 ≤ v3) then (
        (nth v2 v3.toNat).bind fun cs5 =>
        bif Nat.beq ((cs5.drop 0).take 3).length 3 then (
          decCts [.int .i64, .int .i64, .int .i64] ((cs5.drop 0).take 3) fun c6 =>
          callT (lvl Try.prog HH (n + 0)).2 37 [.s (.agg true [.v (.int .i64 c6.1), .v (.int .i64 c6.2.1), .v (.int .i64 c6.2.2.1)])] [] outs37 mouts37 fun y7 m8 =>
          bif decide ((es4.length + 1) * 48 ≤ 140737488355328) then (
            letIn (IntKind.wrap .i64 (v3 + 1) : Int) fun n9 =>
            (lvl Try.prog HH (n + 0)).1 ⟨29, 0, true⟩ 0 (loopOf Try.f29 0) (encSt S29_0 ((v2, (), n9, ()), ((es4 ++ ([[.v (.int .i64 y7.1.1), .v (.int .i64 y7.1.2.1), .v (.int .i64 y7.1.2.2.1), .v (.int .i64 y7.1.2.2.2.1), .v (.int .i64 y7.1.2.2.2.2.1), .v (.int .i64 y7.1.2.2.2.2.2.1)]] : List (List D1))), ()))))
          else
          none)
        else
        none)
      else
      none)
    else
    some (.exit 0, encSt S29_0_e0 (((), ()), (es4, ()))) := by kernel_rfl

theorem fn29 (n : Nat) (l1 : List (List D1)) : (lvl Try.prog HH (n + 1)).2 29 [.s (.one (.fr 3 l1))] [] =
    ((lvl Try.prog HH (n + 0)).1 ⟨29, 0, true⟩ 0 (loopOf Try.f29 0) (encSt S29_0 ((l1, (), 0, ()), ([], ())))).bind fun p10 =>
    bif sameEx (.exit 0) p10.1 then (decSt S29_0_e0 p10.2 fun x11 =>
      some (.s (.one (.fr 6 x11.2.1)), []))
    else
    none := by kernel_rfl

/-! armplan/shape.reaches -/
theorem fn46 (n : Nat) (a1 : Int) (a2 : Int) : (lvl Try.prog HH (n + 1)).2 46 [.s (.agg true [.v (.int .i64 a1), .v (.int .i64 a2)])] [] =
    bif decide (a1 ≥ (-268435456)) then (
      bif decide (a1 ≤ a2) then (
        some (.s (.one (.v (.bool (decide (a2 ≤ 268435456))))), []))
      else
      some (.s (.one (.v (.bool false))), []))
    else
    some (.s (.one (.v (.bool false))), []) := by kernel_rfl

/-! armplan/shape.Placed -/
theorem loop41_0 (n : Nat) (v2 : List (List D1)) (v3 : List (List D1)) (v4 : Int) (v5 : Int) : (lvl Try.prog HH (n + 1)).1 ⟨41, 0, true⟩ 0 (loopOf Try.f41 0) (encSt S41_0 ((v2, v3, v4, v5, ()), ())) =
    bif decide (v5 < v4) then (
      bif decide (0 ≤ v5) then (
        (nth v3 v5.toNat).bind fun cs6 =>
        bif Nat.beq ((cs6.drop 0).take 6).length 6 then (
          decCts [.int .i64, .int .i64, .int .i64, .int .i64, .int .i64, .int .i64] ((cs6.drop 0).take 6) fun c7 =>
          callT (lvl Try.prog HH (n + 0)).2 46 [.s (.agg true [.v (.int .i64 c7.1), .v (.int .i64 c7.2.1)])] [] outs46 mouts46 fun y8 m9 =>
          bif !y8.1 then (
            some (.ret, encSt S41_0_r ((false, ()), ())))
          else
          callT (lvl Try.prog HH (n + 0)).2 46 [.s (.agg true [.v (.int .i64 c7.2.2.1), .v (.int .i64 c7.2.2.2.1)])] [] outs46 mouts46 fun y10 m11 =>
          bif !y10.1 then (
            some (.ret, encSt S41_0_r ((false, ()), ())))
          else
          callT (lvl Try.prog HH (n + 0)).2 46 [.s (.agg true [.v (.int .i64 c7.2.2.2.2.1), .v (.int .i64 c7.2.2.2.2.2.1)])] [] outs46 mouts46 fun y12 m13 =>
          bif !y12.1 then (
            some (.ret, encSt S41_0_r ((false, ()), ())))
          else
          letIn (IntKind.wrap .i64 (v5 + 1) : Int) fun n14 =>
          (lvl Try.prog HH (n + 0)).1 ⟨41, 0, true⟩ 0 (loopOf Try.f41 0) (encSt S41_0 ((v2, v3, v4, n14, ()), ())))
        else
        none)
      else
      none)
    else
    some (.exit 0, encSt S41_0_e0 ((v2, ()), ())) := by kernel_rfl

theorem fn41 (n : Nat) (l1 : List (List D1)) : (lvl Try.prog HH (n + 1)).2 41 [.s (.one (.fr 6 l1))] [] =
    ((lvl Try.prog HH (n + 0)).1 ⟨41, 0, true⟩ 0 (loopOf Try.f41 0) (encSt S41_0 ((l1, l1, (((l1.length : Nat) : Int)), 0, ()), ()))).bind fun p15 =>
    bif sameEx (.ret) p15.1 then (decSt S41_0_r p15.2 fun x16 =>
      some (.s (.one (.v (.bool x16.1.1))), []))
    else
    bif sameEx (.exit 0) p15.1 then (decSt S41_0_e0 p15.2 fun x17 =>
      bif decide ((((x17.1.1.length : Nat) : Int)) ≥ 1) then (
        some (.s (.one (.v (.bool (decide ((((x17.1.1.length : Nat) : Int)) ≤ 8))))), []))
      else
      some (.s (.one (.v (.bool false))), []))
    else
    none := by kernel_rfl

/-! armplan/shape.Combine -/
theorem loop32_0 (n : Nat) (v5 : List (List D1)) (v6 : Int) (v7 : List (List D1)) (v8 : Int) (v9 : Int) (c10 : Int) (c11 : Int) (c12 : Int) (c13 : Int) (c14 : Int) (c15 : Int) (c16 : Int) (c17 : Int) (c18 : Int) (c19 : Int) (c20 : Int) (c21 : Int) : (lvl Try.prog HH (n + 5)).1 ⟨32, 0, true⟩ 0 (loopOf Try.f32 0) (encSt S32_0 ((v5, (), (), v6, v7, v8, v9, ()), ((c10, c11, c12, c13, c14, c15, ()), (c16, c17, c18, c19, c20, c21, ()), ()))) =
    bif decide (v9 < v8) then (
      bif decide (0 ≤ v9) then (
        (nth v7 v9.toNat).bind fun cs22 =>
        (nth cs22 0).bind fun d23 =>
        (asInt? .i64 d23).bind fun n24 =>
        bif decide (n24 < 0) then (
          some (.ret, encSt S32_0_r (((), 0, false, ()), ((0, 0, 0, 0, 0, 0, ()), ()))))
        else
        bif decide (n24 > 65536) then (
          some (.ret, encSt S32_0_r (((), 0, false, ()), ((0, 0, 0, 0, 0, 0, ()), ()))))
        else
        letIn (IntKind.wrap .i64 (v6 + n24) : Int) fun n25 =>
        Option.bind (
          bif decide (0 ≤ v9) then (
            (nth v5 v9.toNat).bind fun cs26 =>
            (nth ((cs26.drop 0).drop 0) 0).bind fun d27 =>
            (asInt? .i64 d27).bind fun n28 =>
            letIn (IntKind.wrap .i64 (n24 * n28) : Int) fun n29 =>
            letIn (IntKind.wrap .i64 (c16 + n29) : Int) fun n30 =>
            bif decide (0 ≤ v9) then (
              (nth v5 v9.toNat).bind fun cs31 =>
              (nth ((cs31.drop 0).drop 1) 0).bind fun d32 =>
              (asInt? .i64 d32).bind fun n33 =>
              letIn (IntKind.wrap .i64 (n24 * n33) : Int) fun n34 =>
              letIn (IntKind.wrap .i64 (c17 + n34) : Int) fun n35 =>
              bif decide (0 ≤ v9) then (
                (nth v5 v9.toNat).bind fun cs36 =>
                (nth ((cs36.drop 2).drop 0) 0).bind fun d37 =>
                (asInt? .i64 d37).bind fun n38 =>
                letIn (IntKind.wrap .i64 (n24 * n38) : Int) fun n39 =>
                letIn (IntKind.wrap .i64 (c18 + n39) : Int) fun n40 =>
                bif decide (0 ≤ v9) then (
                  (nth v5 v9.toNat).bind fun cs41 =>
                  (nth ((cs41.drop 2).drop 1) 0).bind fun d42 =>
                  (asInt? .i64 d42).bind fun n43 =>
                  letIn (IntKind.wrap .i64 (n24 * n43) : Int) fun n44 =>
                  letIn (IntKind.wrap .i64 (c19 + n44) : Int) fun n45 =>
                  bif decide (0 ≤ v9) then (
                    (nth v5 v9.toNat).bind fun cs46 =>
                    (nth ((cs46.drop 4).drop 0) 0).bind fun d47 =>
                    (asInt? .i64 d47).bind fun n48 =>
                    letIn (IntKind.wrap .i64 (n24 * n48) : Int) fun n49 =>
                    letIn (IntKind.wrap .i64 (c20 + n49) : Int) fun n50 =>
                    bif decide (0 ≤ v9) then (
                      (nth v5 v9.toNat).bind fun cs51 =>
                      (nth ((cs51.drop 4).drop 1) 0).bind fun d52 =>
                      (asInt? .i64 d52).bind fun n53 =>
                      letIn (IntKind.wrap .i64 (n24 * n53) : Int) fun n54 =>
                      letIn (IntKind.wrap .i64 (c21 + n54) : Int) fun n55 =>
                      some (.exit 2, encSt S32_2_e2 ((v5, (), (), n25, v7, v8, v9, ()), ((c10, c11, c12, c13, c14, c15, ()), (n30, n35, n40, n45, n50, n55, ()), ()))))
                    else
                    none)
                  else
                  none)
                else
                none)
              else
              none)
            else
            none)
          else
          none) fun p56 =>
        bif sameEx (.exit 2) p56.1 then (decSt S32_2_e2 p56.2 fun x57 =>
          letIn (IntKind.wrap .i64 (x57.1.2.2.2.2.2.2.1 + 1) : Int) fun n58 =>
          (lvl Try.prog HH (n + 4)).1 ⟨32, 0, true⟩ 0 (loopOf Try.f32 0) (encSt S32_0 ((x57.1.1, (), (), x57.1.2.2.2.1, x57.1.2.2.2.2.1, x57.1.2.2.2.2.2.1, n58, ()), ((x57.2.1.1, x57.2.1.2.1, x57.2.1.2.2.1, x57.2.1.2.2.2.1, x57.2.1.2.2.2.2.1, x57.2.1.2.2.2.2.2.1, ()), (x57.2.2.1.1, x57.2.2.1.2.1, x57.2.2.1.2.2.1, x57.2.2.1.2.2.2.1, x57.2.2.1.2.2.2.2.1, x57.2.2.1.2.2.2.2.2.1, ()), ()))))
        else
        none)
      else
      none)
    else
    some (.exit 0, encSt S32_0_e0 (((), (), v6, ()), ((c10, c11, c12, c13, c14, c15, ()), (c16, c17, c18, c19, c20, c21, ()), ()))) := by kernel_rfl

theorem fn32 (n : Nat) (l1 : List (List D1)) (weights2 : List (List D1)) : (lvl Try.prog HH (n + 1)).2 32 [.s (.one (.fr 6 l1)), .s (.one (.fr 1 weights2))] [] =
    callT (lvl Try.prog HH (n + 0)).2 41 [.s (.one (.fr 6 l1))] [] outs41 mouts41 fun y3 m4 =>
    bif !y3.1 then (
      some (.tup [.agg true [.v (.int .i64 0), .v (.int .i64 0), .v (.int .i64 0), .v (.int .i64 0), .v (.int .i64 0), .v (.int .i64 0)], .one (.v (.int .i64 0)), .one (.v (.bool false))], []))
    else
    bif (((weights2.length : Nat) : Int)) != (((l1.length : Nat) : Int)) then (
      some (.tup [.agg true [.v (.int .i64 0), .v (.int .i64 0), .v (.int .i64 0), .v (.int .i64 0), .v (.int .i64 0), .v (.int .i64 0)], .one (.v (.int .i64 0)), .one (.v (.bool false))], []))
    else
    ((lvl Try.prog HH (n + 0)).1 ⟨32, 0, true⟩ 0 (loopOf Try.f32 0) (encSt S32_0 ((l1, (), (), 0, weights2, (((weights2.length : Nat) : Int)), 0, ()), ((0, 0, 0, 0, 0, 0, ()), (0, 0, 0, 0, 0, 0, ()), ())))).bind fun p59 =>
    bif sameEx (.ret) p59.1 then (decSt S32_0_r p59.2 fun x60 =>
      some (.tup [.agg true [.v (.int .i64 x60.2.1.1), .v (.int .i64 x60.2.1.2.1), .v (.int .i64 x60.2.1.2.2.1), .v (.int .i64 x60.2.1.2.2.2.1), .v (.int .i64 x60.2.1.2.2.2.2.1), .v (.int .i64 x60.2.1.2.2.2.2.2.1)], .one (.v (.int .i64 x60.1.2.1)), .one (.v (.bool x60.1.2.2.1))], []))
    else
    bif sameEx (.exit 0) p59.1 then (decSt S32_0_e0 p59.2 fun x61 =>
      bif decide (x61.1.2.2.1 < 1) then (
        some (.tup [.agg true [.v (.int .i64 0), .v (.int .i64 0), .v (.int .i64 0), .v (.int .i64 0), .v (.int .i64 0), .v (.int .i64 0)], .one (.v (.int .i64 0)), .one (.v (.bool false))], []))
      else
      bif decide (x61.1.2.2.1 > 65536) then (
        some (.tup [.agg true [.v (.int .i64 0), .v (.int .i64 0), .v (.int .i64 0), .v (.int .i64 0), .v (.int .i64 0), .v (.int .i64 0)], .one (.v (.int .i64 0)), .one (.v (.bool false))], []))
      else
      some (.tup [.agg true [.v (.int .i64 x61.2.2.1.1), .v (.int .i64 x61.2.2.1.2.1), .v (.int .i64 x61.2.2.1.2.2.1), .v (.int .i64 x61.2.2.1.2.2.2.1), .v (.int .i64 x61.2.2.1.2.2.2.2.1), .v (.int .i64 x61.2.2.1.2.2.2.2.2.1)], .one (.v (.int .i64 x61.1.2.2.1)), .one (.v (.bool true))], []))
    else
    none := by kernel_rfl

/-! armplan/overlap.greatest -/
theorem loop33_0 (n : Nat) (v2 : Int) (v3 : List (List D1)) (v4 : Int) (v5 : Int) : (lvl Try.prog HH (n + 1)).1 ⟨33, 0, true⟩ 0 (loopOf Try.f33 0) (encSt S33_0 ((v2, v3, v4, v5, ()), ())) =
    bif decide (v5 < v4) then (
      bif decide (0 ≤ v5) then (
        (nth v3 v5.toNat).bind fun cs6 =>
        (nth cs6 0).bind fun d7 =>
        (asInt? .i64 d7).bind fun n8 =>
        letIn (IntKind.wrap .i64 (0 - n8) : Int) fun n9 =>
        letIn (if n8 > v2 then n8 else v2 : Int) fun n10 =>
        letIn (if n9 > n10 then n9 else n10 : Int) fun n11 =>
        letIn (IntKind.wrap .i64 (v5 + 1) : Int) fun n12 =>
        (lvl Try.prog HH (n + 0)).1 ⟨33, 0, true⟩ 0 (loopOf Try.f33 0) (encSt S33_0 ((n11, v3, v4, n12, ()), ())))
      else
      none)
    else
    some (.exit 0, encSt S33_0_e0 ((v2, ()), ())) := by kernel_rfl

theorem fn33 (n : Nat) (l1 : List (List D1)) : (lvl Try.prog HH (n + 1)).2 33 [.s (.one (.fr 1 l1))] [] =
    ((lvl Try.prog HH (n + 0)).1 ⟨33, 0, true⟩ 0 (loopOf Try.f33 0) (encSt S33_0 ((0, l1, (((l1.length : Nat) : Int)), 0, ()), ()))).bind fun p13 =>
    bif sameEx (.exit 0) p13.1 then (decSt S33_0_e0 p13.2 fun x14 =>
      some (.s (.one (.v (.int .i64 x14.1.1))), []))
    else
    none := by kernel_rfl

end Go.Proofs.Ytilffjjibcebmaa.Am
