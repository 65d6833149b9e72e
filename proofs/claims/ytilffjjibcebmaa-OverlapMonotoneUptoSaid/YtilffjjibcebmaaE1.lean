/- PRINTED by amprint.py: what the abstract machine answers, function by function. -/
import Derived.Test.YtilffjjibcebmaaH
import Derived.KernelRfl
set_option linter.unusedVariables false
set_option maxRecDepth 100000
namespace Go.Proofs.Ytilffjjibcebmaa.Am
open Go Go.Proofs

/-! armplan/armplanmake.Total -/
theorem loop22_0 (n : Nat) (v2 : List (List D1)) (v3 : Int) (v4 : Int) : (lvl Try.prog HH (n + 1)).1 ⟨22, 0, true⟩ 0 (loopOf Try.f22 0) (encSt S22_0 ((v2, v3, v4, ()), ())) =
    bif decide (v4 < (((v2.length : Nat) : Int))) then (
      bif decide (0 ≤ v4) then (
        (nth v2 v4.toNat).bind fun cs5 =>
        (nth cs5 0).bind fun d6 =>
        (asInt? .i64 d6).bind fun n7 =>
        letIn (IntKind.wrap .i64 (v3 + n7) : Int) fun n8 =>
        letIn (IntKind.wrap .i64 (v4 + 1) : Int) fun n9 =>
        (lvl Try.prog HH (n + 0)).1 ⟨22, 0, true⟩ 0 (loopOf Try.f22 0) (encSt S22_0 ((v2, n8, n9, ()), ())))
      else
      none)
    else
    some (.exit 0, encSt S22_0_e0 ((v3, ()), ())) := by kernel_rfl

theorem fn22 (n : Nat) (l1 : List (List D1)) : (lvl Try.prog HH (n + 1)).2 22 [.s (.one (.fr 1 l1))] [] =
    ((lvl Try.prog HH (n + 0)).1 ⟨22, 0, true⟩ 0 (loopOf Try.f22 0) (encSt S22_0 ((l1, 0, 0, ()), ()))).bind fun p10 =>
    bif sameEx (.exit 0) p10.1 then (decSt S22_0_e0 p10.2 fun x11 =>
      some (.s (.one (.v (.int .i64 x11.1.1))), []))
    else
    none := by kernel_rfl

/-! armplan/armplanlaw16.equal -/
theorem fn11_w (w : CallF → CallF) (v : LoopF → LoopF) (n : Nat) (n1 : Int) (k2 : Int) (l3 : List (List D1)) : (lvlW w v symL Try.prog HH (n + 1)).2 11 [.s (.one (.v (.int .i64 n1))), .s (.one (.v (.int .i64 k2))), .s (.one (.fr 1 l3))] [] =
    callT (w (lvlW w v symL Try.prog HH (n + 0)).2) 15 [.s (.one (.v (.int .i64 n1))), .s (.one (.fr 1 l3))] [] outs15 mouts15 fun y4 m5 =>
    bif decide ((0 + l3.length) * 8 ≤ 140737488355328) then (
      bif decide ((([] ++ l3).length + l3.length) * 8 ≤ 140737488355328) then (
        callT (w (lvlW w v symL Try.prog HH (n + 0)).2) 15 [.s (.one (.v (.int .i64 k2))), .s (.one (.fr 1 (([] ++ l3) ++ l3)))] [] outs15 mouts15 fun y6 m7 =>
        callT (w (lvlW w v symL Try.prog HH (n + 0)).2) 22 [.s (.one (.fr 1 m5.1))] [] outs22 mouts22 fun y8 m9 =>
        callT (w (lvlW w v symL Try.prog HH (n + 0)).2) 22 [.s (.one (.fr 1 m7.1))] [] outs22 mouts22 fun y10 m11 =>
        letIn (IntKind.wrap .i64 (y8.1 - y10.1) : Int) fun n12 =>
        bif decide (n12 < 0) then (
          (nth m5.1 0).bind fun cs13 =>
          (nth m5.1 0).bind fun cs14 =>
          (nth cs14 0).bind fun d15 =>
          (asInt? .i64 d15).bind fun n16 =>
          letIn (IntKind.wrap .i64 (n16 - n12) : Int) fun n17 =>
          (nth m5.1 0).bind fun cs18 =>
          (nth m5.1 0).bind fun cs19 =>
          (setCells cs19 0 [.v (.int .i64 n17)]).bind fun cs20 =>
          some (.tup [.one (.fr 1 (upd m5.1 0 cs20)), .one (.fr 1 m7.1)], []))
        else
        (nth m7.1 0).bind fun cs21 =>
        (nth m7.1 0).bind fun cs22 =>
        (nth cs22 0).bind fun d23 =>
        (asInt? .i64 d23).bind fun n24 =>
        letIn (IntKind.wrap .i64 (n24 + n12) : Int) fun n25 =>
        (nth m7.1 0).bind fun cs26 =>
        (nth m7.1 0).bind fun cs27 =>
        (setCells cs27 0 [.v (.int .i64 n25)]).bind fun cs28 =>
        some (.tup [.one (.fr 1 m5.1), .one (.fr 1 (upd m7.1 0 cs28))], []))
      else
      none)
    else
    none := by kernel_rfl
theorem fn11 (n : Nat) (n1 : Int) (k2 : Int) (l3 : List (List D1)) : (lvl Try.prog HH (n + 1)).2 11 [.s (.one (.v (.int .i64 n1))), .s (.one (.v (.int .i64 k2))), .s (.one (.fr 1 l3))] [] =
    callT (lvl Try.prog HH (n + 0)).2 15 [.s (.one (.v (.int .i64 n1))), .s (.one (.fr 1 l3))] [] outs15 mouts15 fun y4 m5 =>
    bif decide ((0 + l3.length) * 8 ≤ 140737488355328) then (
      bif decide ((([] ++ l3).length + l3.length) * 8 ≤ 140737488355328) then (
        callT (lvl Try.prog HH (n + 0)).2 15 [.s (.one (.v (.int .i64 k2))), .s (.one (.fr 1 (([] ++ l3) ++ l3)))] [] outs15 mouts15 fun y6 m7 =>
        callT (lvl Try.prog HH (n + 0)).2 22 [.s (.one (.fr 1 m5.1))] [] outs22 mouts22 fun y8 m9 =>
        callT (lvl Try.prog HH (n + 0)).2 22 [.s (.one (.fr 1 m7.1))] [] outs22 mouts22 fun y10 m11 =>
        letIn (IntKind.wrap .i64 (y8.1 - y10.1) : Int) fun n12 =>
        bif decide (n12 < 0) then (
          (nth m5.1 0).bind fun cs13 =>
          (nth m5.1 0).bind fun cs14 =>
          (nth cs14 0).bind fun d15 =>
          (asInt? .i64 d15).bind fun n16 =>
          letIn (IntKind.wrap .i64 (n16 - n12) : Int) fun n17 =>
          (nth m5.1 0).bind fun cs18 =>
          (nth m5.1 0).bind fun cs19 =>
          (setCells cs19 0 [.v (.int .i64 n17)]).bind fun cs20 =>
          some (.tup [.one (.fr 1 (upd m5.1 0 cs20)), .one (.fr 1 m7.1)], []))
        else
        (nth m7.1 0).bind fun cs21 =>
        (nth m7.1 0).bind fun cs22 =>
        (nth cs22 0).bind fun d23 =>
        (asInt? .i64 d23).bind fun n24 =>
        letIn (IntKind.wrap .i64 (n24 + n12) : Int) fun n25 =>
        (nth m7.1 0).bind fun cs26 =>
        (nth m7.1 0).bind fun cs27 =>
        (setCells cs27 0 [.v (.int .i64 n25)]).bind fun cs28 =>
        some (.tup [.one (.fr 1 m5.1), .one (.fr 1 (upd m7.1 0 cs28))], []))
      else
      none)
    else
    none := by
  have h := fn11_w (fun x => x) (fun x => x) n n1 k2 l3
  rw [lvlW_id] at h
  exact h

/-! armplan/armplanlaw16.radius -/
theorem fn14 (n : Nat) (r1 : Int) : (lvl Try.prog HH (n + 1)).2 14 [.s (.one (.v (.int .i64 r1)))] [] =
    letIn (Int.fdiv r1 4 : Int) fun n2 =>
    letIn (IntKind.wrap .i64 ((BitVec.ofInt 64 r1 &&& BitVec.ofInt 64 3).toNat : Nat) : Int) fun n3 =>
    bif (decide (0 ≤ n3)) && (decide (n3 < 4)) then (
      (nth ([.v (.int .i64 1), .v (.int .i64 30000), .v (.int .i64 200000), .v (.int .i64 1048577)] : List D1) (n3.toNat * 1)).bind fun d4 =>
      (asInt? .i64 d4).bind fun n5 =>
      callT (lvl Try.prog HH (n + 0)).2 19 [.s (.one (.v (.int .i64 n2))), .s (.one (.v (.int .i64 n5)))] [] outs19 mouts19 fun y6 m7 =>
      some (.s (.one (.v (.int .i64 y6.1))), []))
    else
    none := by kernel_rfl

/-! armplan/shape.reaches -/
theorem fn46 (n : Nat) (a1 : Int) (a2 : Int) : (lvl Try.prog HH (n + 1)).2 46 [.s (.agg true [.v (.int .i64 a1), .v (.int .i64 a2)])] [] =
    bif decide (a1 ≥ (-268435456)) then (
      bif decide (a1 ≤ a2) then (
        some (.s (.one (.v (.bool (decide (a2 ≤ 268435456))))), []))
      else
      some (.s (.one (.v (.bool false))), []))
    else
    some (.s (.one (.v (.bool false))), []) := by kernel_rfl

/-! armplan/shape.Placed -/
theorem loop41_0 (n : Nat) (v2 : List (List D1)) (v3 : List (List D1)) (v4 : Int) (v5 : Int) : (lvl Try.prog HH (n + 1)).1 ⟨41, 0, true⟩ 0 (loopOf Try.f41 0) (encSt S41_0 ((v2, v3, v4, v5, ()), ())) =
    bif decide (v5 < v4) then (
      bif decide (0 ≤ v5) then (
        (nth v3 v5.toNat).bind fun cs6 =>
        bif Nat.beq ((cs6.drop 0).take 6).length 6 then (
          decCts [.int .i64, .int .i64, .int .i64, .int .i64, .int .i64, .int .i64] ((cs6.drop 0).take 6) fun c7 =>
          callT (lvl Try.prog HH (n + 0)).2 46 [.s (.agg true [.v (.int .i64 c7.1), .v (.int .i64 c7.2.1)])] [] outs46 mouts46 fun y8 m9 =>
          bif !y8.1 then (
            some (.ret, encSt S41_0_r ((false, ()), ())))
          else
          callT (lvl Try.prog HH (n + 0)).2 46 [.s (.agg true [.v (.int .i64 c7.2.2.1), .v (.int .i64 c7.2.2.2.1)])] [] outs46 mouts46 fun y10 m11 =>
          bif !y10.1 then (
            some (.ret, encSt S41_0_r ((false, ()), ())))
          else
          callT (lvl Try.prog HH (n + 0)).2 46 [.s (.agg true [.v (.int .i64 c7.2.2.2.2.1), .v (.int .i64 c7.2.2.2.2.2.1)])] [] outs46 mouts46 fun y12 m13 =>
          bif !y12.1 then (
            some (.ret, encSt S41_0_r ((false, ()), ())))
          else
          letIn (IntKind.wrap .i64 (v5 + 1) : Int) fun n14 =>
          (lvl Try.prog HH (n + 0)).1 ⟨41, 0, true⟩ 0 (loopOf Try.f41 0) (encSt S41_0 ((v2, v3, v4, n14, ()), ())))
        else
        none)
      else
      none)
    else
    some (.exit 0, encSt S41_0_e0 ((v2, ()), ())) := by kernel_rfl

theorem fn41 (n : Nat) (l1 : List (List D1)) : (lvl Try.prog HH (n + 1)).2 41 [.s (.one (.fr 6 l1))] [] =
    ((lvl Try.prog HH (n + 0)).1 ⟨41, 0, true⟩ 0 (loopOf Try.f41 0) (encSt S41_0 ((l1, l1, (((l1.length : Nat) : Int)), 0, ()), ()))).bind fun p15 =>
    bif sameEx (.ret) p15.1 then (decSt S41_0_r p15.2 fun x16 =>
      some (.s (.one (.v (.bool x16.1.1))), []))
    else
    bif sameEx (.exit 0) p15.1 then (decSt S41_0_e0 p15.2 fun x17 =>
      bif decide ((((x17.1.1.length : Nat) : Int)) ≥ 1) then (
        some (.s (.one (.v (.bool (decide ((((x17.1.1.length : Nat) : Int)) ≤ 8))))), []))
      else
      some (.s (.one (.v (.bool false))), []))
    else
    none := by kernel_rfl

/-! armplan/shape.Combine -/
theorem loop32_0 (n : Nat) (v5 : List (List D1)) (v6 : Int) (v7 : List (List D1)) (v8 : Int) (v9 : Int) (c10 : Int) (c11 : Int) (c12 : Int) (c13 : Int) (c14 : Int) (c15 : Int) (c16 : Int) (c17 : Int) (c18 : Int) (c19 : Int) (c20 : Int) (c21 : Int) : (lvl Try.prog HH (n + 5)).1 ⟨32, 0, true⟩ 0 (loopOf Try.f32 0) (encSt S32_0 ((v5, (), (), v6, v7, v8, v9, ()), ((c10, c11, c12, c13, c14, c15, ()), (c16, c17, c18, c19, c20, c21, ()), ()))) =
    bif decide (v9 < v8) then (
      bif decide (0 ≤ v9) then (
        (nth v7 v9.toNat).bind fun cs22 =>
        (nth cs22 0).bind fun d23 =>
        (asInt? .i64 d23).bind fun n24 =>
        bif decide (n24 < 0) then (
          some (.ret, encSt S32_0_r (((), 0, false, ()), ((0, 0, 0, 0, 0, 0, ()), ()))))
        else
        bif decide (n24 > 65536) then (
          some (.ret, encSt S32_0_r (((), 0, false, ()), ((0, 0, 0, 0, 0, 0, ()), ()))))
        else
        letIn (IntKind.wrap .i64 (v6 + n24) : Int) fun n25 =>
        Option.bind (
          bif decide (0 ≤ v9) then (
            (nth v5 v9.toNat).bind fun cs26 =>
            (nth ((cs26.drop 0).drop 0) 0).bind fun d27 =>
            (asInt? .i64 d27).bind fun n28 =>
            letIn (IntKind.wrap .i64 (n24 * n28) : Int) fun n29 =>
            letIn (IntKind.wrap .i64 (c16 + n29) : Int) fun n30 =>
            bif decide (0 ≤ v9) then (
              (nth v5 v9.toNat).bind fun cs31 =>
              (nth ((cs31.drop 0).drop 1) 0).bind fun d32 =>
              (asInt? .i64 d32).bind fun n33 =>
              letIn (IntKind.wrap .i64 (n24 * n33) : Int) fun n34 =>
              letIn (IntKind.wrap .i64 (c17 + n34) : Int) fun n35 =>
              bif decide (0 ≤ v9) then (
                (nth v5 v9.toNat).bind fun cs36 =>
                (nth ((cs36.drop 2).drop 0) 0).bind fun d37 =>
                (asInt? .i64 d37).bind fun n38 =>
                letIn (IntKind.wrap .i64 (n24 * n38) : Int) fun n39 =>
                letIn (IntKind.wrap .i64 (c18 + n39) : Int) fun n40 =>
                bif decide (0 ≤ v9) then (
                  (nth v5 v9.toNat).bind fun cs41 =>
                  (nth ((cs41.drop 2).drop 1) 0).bind fun d42 =>
                  (asInt? .i64 d42).bind fun n43 =>
                  letIn (IntKind.wrap .i64 (n24 * n43) : Int) fun n44 =>
                  letIn (IntKind.wrap .i64 (c19 + n44) : Int) fun n45 =>
                  bif decide (0 ≤ v9) then (
                    (nth v5 v9.toNat).bind fun cs46 =>
                    (nth ((cs46.drop 4).drop 0) 0).bind fun d47 =>
                    (asInt? .i64 d47).bind fun n48 =>
                    letIn (IntKind.wrap .i64 (n24 * n48) : Int) fun n49 =>
                    letIn (IntKind.wrap .i64 (c20 + n49) : Int) fun n50 =>
                    bif decide (0 ≤ v9) then (
                      (nth v5 v9.toNat).bind fun cs51 =>
                      (nth ((cs51.drop 4).drop 1) 0).bind fun d52 =>
                      (asInt? .i64 d52).bind fun n53 =>
                      letIn (IntKind.wrap .i64 (n24 * n53) : Int) fun n54 =>
                      letIn (IntKind.wrap .i64 (c21 + n54) : Int) fun n55 =>
                      some (.exit 2, encSt S32_2_e2 ((v5, (), (), n25, v7, v8, v9, ()), ((c10, c11, c12, c13, c14, c15, ()), (n30, n35, n40, n45, n50, n55, ()), ()))))
                    else
                    none)
                  else
                  none)
                else
                none)
              else
              none)
            else
            none)
          else
          none) fun p56 =>
        bif sameEx (.exit 2) p56.1 then (decSt S32_2_e2 p56.2 fun x57 =>
          letIn (IntKind.wrap .i64 (x57.1.2.2.2.2.2.2.1 + 1) : Int) fun n58 =>
          (lvl Try.prog HH (n + 4)).1 ⟨32, 0, true⟩ 0 (loopOf Try.f32 0) (encSt S32_0 ((x57.1.1, (), (), x57.1.2.2.2.1, x57.1.2.2.2.2.1, x57.1.2.2.2.2.2.1, n58, ()), ((x57.2.1.1, x57.2.1.2.1, x57.2.1.2.2.1, x57.2.1.2.2.2.1, x57.2.1.2.2.2.2.1, x57.2.1.2.2.2.2.2.1, ()), (x57.2.2.1.1, x57.2.2.1.2.1, x57.2.2.1.2.2.1, x57.2.2.1.2.2.2.1, x57.2.2.1.2.2.2.2.1, x57.2.2.1.2.2.2.2.2.1, ()), ()))))
        else
        none)
      else
      none)
    else
    some (.exit 0, encSt S32_0_e0 (((), (), v6, ()), ((c10, c11, c12, c13, c14, c15, ()), (c16, c17, c18, c19, c20, c21, ()), ()))) := by kernel_rfl

theorem fn32 (n : Nat) (l1 : List (List D1)) (weights2 : List (List D1)) : (lvl Try.prog HH (n + 1)).2 32 [.s (.one (.fr 6 l1)), .s (.one (.fr 1 weights2))] [] =
    callT (lvl Try.prog HH (n + 0)).2 41 [.s (.one (.fr 6 l1))] [] outs41 mouts41 fun y3 m4 =>
    bif !y3.1 then (
      some (.tup [.agg true [.v (.int .i64 0), .v (.int .i64 0), .v (.int .i64 0), .v (.int .i64 0), .v (.int .i64 0), .v (.int .i64 0)], .one (.v (.int .i64 0)), .one (.v (.bool false))], []))
    else
    bif (((weights2.length : Nat) : Int)) != (((l1.length : Nat) : Int)) then (
      some (.tup [.agg true [.v (.int .i64 0), .v (.int .i64 0), .v (.int .i64 0), .v (.int .i64 0), .v (.int .i64 0), .v (.int .i64 0)], .one (.v (.int .i64 0)), .one (.v (.bool false))], []))
    else
    ((lvl Try.prog HH (n + 0)).1 ⟨32, 0, true⟩ 0 (loopOf Try.f32 0) (encSt S32_0 ((l1, (), (), 0, weights2, (((weights2.length : Nat) : Int)), 0, ()), ((0, 0, 0, 0, 0, 0, ()), (0, 0, 0, 0, 0, 0, ()), ())))).bind fun p59 =>
    bif sameEx (.ret) p59.1 then (decSt S32_0_r p59.2 fun x60 =>
      some (.tup [.agg true [.v (.int .i64 x60.2.1.1), .v (.int .i64 x60.2.1.2.1), .v (.int .i64 x60.2.1.2.2.1), .v (.int .i64 x60.2.1.2.2.2.1), .v (.int .i64 x60.2.1.2.2.2.2.1), .v (.int .i64 x60.2.1.2.2.2.2.2.1)], .one (.v (.int .i64 x60.1.2.1)), .one (.v (.bool x60.1.2.2.1))], []))
    else
    bif sameEx (.exit 0) p59.1 then (decSt S32_0_e0 p59.2 fun x61 =>
      bif decide (x61.1.2.2.1 < 1) then (
        some (.tup [.agg true [.v (.int .i64 0), .v (.int .i64 0), .v (.int .i64 0), .v (.int .i64 0), .v (.int .i64 0), .v (.int .i64 0)], .one (.v (.int .i64 0)), .one (.v (.bool false))], []))
      else
      bif decide (x61.1.2.2.1 > 65536) then (
        some (.tup [.agg true [.v (.int .i64 0), .v (.int .i64 0), .v (.int .i64 0), .v (.int .i64 0), .v (.int .i64 0), .v (.int .i64 0)], .one (.v (.int .i64 0)), .one (.v (.bool false))], []))
      else
      some (.tup [.agg true [.v (.int .i64 x61.2.2.1.1), .v (.int .i64 x61.2.2.1.2.1), .v (.int .i64 x61.2.2.1.2.2.1), .v (.int .i64 x61.2.2.1.2.2.2.1), .v (.int .i64 x61.2.2.1.2.2.2.2.1), .v (.int .i64 x61.2.2.1.2.2.2.2.2.1)], .one (.v (.int .i64 x61.1.2.2.1)), .one (.v (.bool true))], []))
    else
    none := by kernel_rfl

/-! armplan/overlap.greatest -/
theorem loop33_0 (n : Nat) (v2 : Int) (v3 : List (List D1)) (v4 : Int) (v5 : Int) : (lvl Try.prog HH (n + 1)).1 ⟨33, 0, true⟩ 0 (loopOf Try.f33 0) (encSt S33_0 ((v2, v3, v4, v5, ()), ())) =
    bif decide (v5 < v4) then (
      bif decide (0 ≤ v5) then (
        (nth v3 v5.toNat).bind fun cs6 =>
        (nth cs6 0).bind fun d7 =>
        (asInt? .i64 d7).bind fun n8 =>
        letIn (IntKind.wrap .i64 (0 - n8) : Int) fun n9 =>
        letIn (if n8 > v2 then n8 else v2 : Int) fun n10 =>
        letIn (if n9 > n10 then n9 else n10 : Int) fun n11 =>
        letIn (IntKind.wrap .i64 (v5 + 1) : Int) fun n12 =>
        (lvl Try.prog HH (n + 0)).1 ⟨33, 0, true⟩ 0 (loopOf Try.f33 0) (encSt S33_0 ((n11, v3, v4, n12, ()), ())))
      else
      none)
    else
    some (.exit 0, encSt S33_0_e0 ((v2, ()), ())) := by kernel_rfl

theorem fn33 (n : Nat) (l1 : List (List D1)) : (lvl Try.prog HH (n + 1)).2 33 [.s (.one (.fr 1 l1))] [] =
    ((lvl Try.prog HH (n + 0)).1 ⟨33, 0, true⟩ 0 (loopOf Try.f33 0) (encSt S33_0 ((0, l1, (((l1.length : Nat) : Int)), 0, ()), ()))).bind fun p13 =>
    bif sameEx (.exit 0) p13.1 then (decSt S33_0_e0 p13.2 fun x14 =>
      some (.s (.one (.v (.int .i64 x14.1.1))), []))
    else
    none := by kernel_rfl

end Go.Proofs.Ytilffjjibcebmaa.Am
