/- PRINTED by amprint.py: what the abstract machine answers, function by function. -/
import Derived.Test.YtfpdjpleplhcgaaH
import Derived.KernelRfl
set_option linter.unusedVariables false
set_option maxRecDepth 100000
namespace Go.Proofs.Ytfpdjpleplhcgaa.Am
open Go Go.Proofs

/-! armplan/shape.Combine -/
theorem loop38_0 (n : Nat) (v5 : List (List D1)) (v6 : Int) (v7 : List (List D1)) (v8 : Int) (v9 : Int) (c10 : Int) (c11 : Int) (c12 : Int) (c13 : Int) (c14 : Int) (c15 : Int) (c16 : Int) (c17 : Int) (c18 : Int) (c19 : Int) (c20 : Int) (c21 : Int) : (lvl Try.prog HH (n + 5)).1 ⟨38, 0, true⟩ 0 (loopOf Try.f38 0) (encSt S38_0 ((v5, (), (), v6, v7, v8, v9, ()), ((c10, c11, c12, c13, c14, c15, ()), (c16, c17, c18, c19, c20, c21, ()), ()))) =
    bif decide (v9 < v8) then (
      bif decide (0 ≤ v9) then (
        (nth v7 v9.toNat).bind fun cs22 =>
        (nth cs22 0).bind fun d23 =>
        (asInt? .i64 d23).bind fun n24 =>
        bif decide (n24 < 0) then (
          some (.ret, encSt S38_0_r (((), 0, false, ()), ((0, 0, 0, 0, 0, 0, ()), ()))))
        else
        bif decide (n24 > 65536) then (
          some (.ret, encSt S38_0_r (((), 0, false, ()), ((0, 0, 0, 0, 0, 0, ()), ()))))
        else
        letIn (IntKind.wrap .i64 (v6 + n24) : Int) fun n25 =>
        Option.bind (
          bif decide (0 ≤ v9) then (
            (nth v5 v9.toNat).bind fun cs26 =>
            (nth ((cs26.drop 0).drop 0) 0).bind fun d27 =>
            (asInt? .i64 d27).bind fun n28 =>
            letIn (IntKind.wrap .i64 (n24 * n28) : Int) fun n29 =>
            letIn (IntKind.wrap .i64 (c16 + n29) : Int) fun n30 =>
            bif decide (0 ≤ v9) then (
              (nth v5 v9.toNat).bind fun cs31 =>
              (nth ((cs31.drop 0).drop 1) 0).bind fun d32 =>
              (asInt? .i64 d32).bind fun n33 =>
              letIn (IntKind.wrap .i64 (n24 * n33) : Int) fun n34 =>
              letIn (IntKind.wrap .i64 (c17 + n34) : Int) fun n35 =>
              bif decide (0 ≤ v9) then (
                (nth v5 v9.toNat).bind fun cs36 =>
                (nth ((cs36.drop 2).drop 0) 0).bind fun d37 =>
                (asInt? .i64 d37).bind fun n38 =>
                letIn (IntKind.wrap .i64 (n24 * n38) : Int) fun n39 =>
                letIn (IntKind.wrap .i64 (c18 + n39) : Int) fun n40 =>
                bif decide (0 ≤ v9) then (
                  (nth v5 v9.toNat).bind fun cs41 =>
                  (nth ((cs41.drop 2).drop 1) 0).bind fun d42 =>
                  (asInt? .i64 d42).bind fun n43 =>
                  letIn (IntKind.wrap .i64 (n24 * n43) : Int) fun n44 =>
                  letIn (IntKind.wrap .i64 (c19 + n44) : Int) fun n45 =>
                  bif decide (0 ≤ v9) then (
                    (nth v5 v9.toNat).bind fun cs46 =>
                    (nth ((cs46.drop 4).drop 0) 0).bind fun d47 =>
                    (asInt? .i64 d47).bind fun n48 =>
                    letIn (IntKind.wrap .i64 (n24 * n48) : Int) fun n49 =>
                    letIn (IntKind.wrap .i64 (c20 + n49) : Int) fun n50 =>
                    bif decide (0 ≤ v9) then (
                      (nth v5 v9.toNat).bind fun cs51 =>
                      (nth ((cs51.drop 4).drop 1) 0).bind fun d52 =>
                      (asInt? .i64 d52).bind fun n53 =>
                      letIn (IntKind.wrap .i64 (n24 * n53) : Int) fun n54 =>
                      letIn (IntKind.wrap .i64 (c21 + n54) : Int) fun n55 =>
                      some (.exit 2, encSt S38_2_e2 ((v5, (), (), n25, v7, v8, v9, ()), ((c10, c11, c12, c13, c14, c15, ()), (n30, n35, n40, n45, n50, n55, ()), ()))))
                    else
                    none)
                  else
                  none)
                else
                none)
              else
              none)
            else
            none)
          else
          none) fun p56 =>
        bif sameEx (.exit 2) p56.1 then (decSt S38_2_e2 p56.2 fun x57 =>
          letIn (IntKind.wrap .i64 (x57.1.2.2.2.2.2.2.1 + 1) : Int) fun n58 =>
          (lvl Try.prog HH (n + 4)).1 ⟨38, 0, true⟩ 0 (loopOf Try.f38 0) (encSt S38_0 ((x57.1.1, (), (), x57.1.2.2.2.1, x57.1.2.2.2.2.1, x57.1.2.2.2.2.2.1, n58, ()), ((x57.2.1.1, x57.2.1.2.1, x57.2.1.2.2.1, x57.2.1.2.2.2.1, x57.2.1.2.2.2.2.1, x57.2.1.2.2.2.2.2.1, ()), (x57.2.2.1.1, x57.2.2.1.2.1, x57.2.2.1.2.2.1, x57.2.2.1.2.2.2.1, x57.2.2.1.2.2.2.2.1, x57.2.2.1.2.2.2.2.2.1, ()), ()))))
        else
        none)
      else
      none)
    else
    some (.exit 0, encSt S38_0_e0 (((), (), v6, ()), ((c10, c11, c12, c13, c14, c15, ()), (c16, c17, c18, c19, c20, c21, ()), ()))) := by kernel_rfl

theorem fn38 (n : Nat) (l1 : List (List D1)) (weights2 : List (List D1)) : (lvl Try.prog HH (n + 1)).2 38 [.s (.one (.fr 6 l1)), .s (.one (.fr 1 weights2))] [] =
    callT (lvl Try.prog HH (n + 0)).2 99 [.s (.one (.fr 6 l1))] [] outs99 mouts99 fun y3 m4 =>
    bif !y3.1 then (
      some (.tup [.agg true [.v (.int .i64 0), .v (.int .i64 0), .v (.int .i64 0), .v (.int .i64 0), .v (.int .i64 0), .v (.int .i64 0)], .one (.v (.int .i64 0)), .one (.v (.bool false))], []))
    else
    bif (((weights2.length : Nat) : Int)) != (((l1.length : Nat) : Int)) then (
      some (.tup [.agg true [.v (.int .i64 0), .v (.int .i64 0), .v (.int .i64 0), .v (.int .i64 0), .v (.int .i64 0), .v (.int .i64 0)], .one (.v (.int .i64 0)), .one (.v (.bool false))], []))
    else
    ((lvl Try.prog HH (n + 0)).1 ⟨38, 0, true⟩ 0 (loopOf Try.f38 0) (encSt S38_0 ((l1, (), (), 0, weights2, (((weights2.length : Nat) : Int)), 0, ()), ((0, 0, 0, 0, 0, 0, ()), (0, 0, 0, 0, 0, 0, ()), ())))).bind fun p59 =>
    bif sameEx (.ret) p59.1 then (decSt S38_0_r p59.2 fun x60 =>
      some (.tup [.agg true [.v (.int .i64 x60.2.1.1), .v (.int .i64 x60.2.1.2.1), .v (.int .i64 x60.2.1.2.2.1), .v (.int .i64 x60.2.1.2.2.2.1), .v (.int .i64 x60.2.1.2.2.2.2.1), .v (.int .i64 x60.2.1.2.2.2.2.2.1)], .one (.v (.int .i64 x60.1.2.1)), .one (.v (.bool x60.1.2.2.1))], []))
    else
    bif sameEx (.exit 0) p59.1 then (decSt S38_0_e0 p59.2 fun x61 =>
      bif decide (x61.1.2.2.1 < 1) then (
        some (.tup [.agg true [.v (.int .i64 0), .v (.int .i64 0), .v (.int .i64 0), .v (.int .i64 0), .v (.int .i64 0), .v (.int .i64 0)], .one (.v (.int .i64 0)), .one (.v (.bool false))], []))
      else
      bif decide (x61.1.2.2.1 > 65536) then (
        some (.tup [.agg true [.v (.int .i64 0), .v (.int .i64 0), .v (.int .i64 0), .v (.int .i64 0), .v (.int .i64 0), .v (.int .i64 0)], .one (.v (.int .i64 0)), .one (.v (.bool false))], []))
      else
      some (.tup [.agg true [.v (.int .i64 x61.2.2.1.1), .v (.int .i64 x61.2.2.1.2.1), .v (.int .i64 x61.2.2.1.2.2.1), .v (.int .i64 x61.2.2.1.2.2.2.1), .v (.int .i64 x61.2.2.1.2.2.2.2.1), .v (.int .i64 x61.2.2.1.2.2.2.2.2.1)], .one (.v (.int .i64 x61.1.2.2.1)), .one (.v (.bool true))], []))
    else
    none := by kernel_rfl

/-! armplan/armplanlaw10.awake -/
theorem fn36 (n : Nat)  : (lvl Try.prog HH (n + 1)).2 36 [] [] =
    callT (lvl Try.prog HH (n + 0)).2 98 [.s (.one (.fr 3 [[.v (.int .i64 0), .v (.int .i64 0), .v (.int .i64 0)], [.v (.int .i64 4), .v (.int .i64 0), .v (.int .i64 0)]]))] [] outs98 mouts98 fun y1 m2 =>
    callT (lvl Try.prog HH (n + 0)).2 38 [.s (.one (.fr 6 y1.1)), .s (.one (.fr 1 [[.v (.int .i64 1)], [.v (.int .i64 3)]]))] [] outs38 mouts38 fun y3 m4 =>
    bif y3.2.2.1 then (
      bif y3.2.1 == 4 then (
        callT (lvl Try.prog HH (n + 0)).2 87 [.s (.agg true [.v (.int .i64 12), .v (.int .i64 0), .v (.int .i64 0)])] [] outs87 mouts87 fun y5 m6 =>
        letIn (((y3.1.1 == y5.1.1) && ((y3.1.2.1 == y5.1.2.1) && true)) && (((y3.1.2.2.1 == y5.1.2.2.1) && ((y3.1.2.2.2.1 == y5.1.2.2.2.1) && true)) && (((y3.1.2.2.2.2.1 == y5.1.2.2.2.2.1) && ((y3.1.2.2.2.2.2.1 == y5.1.2.2.2.2.2.1) && true)) && true)) : Bool) fun b7 =>
        bif b7 then (
          callT (lvl Try.prog HH (n + 0)).2 98 [.s (.one (.fr 3 [[.v (.int .i64 1), .v (.int .i64 0), .v (.int .i64 0)]]))] [] outs98 mouts98 fun y8 m9 =>
          callT (lvl Try.prog HH (n + 0)).2 99 [.s (.one (.fr 6 y8.1))] [] outs99 mouts99 fun y10 m11 =>
          some (.s (.one (.v (.bool y10.1))), []))
        else
        some (.s (.one (.v (.bool false))), []))
      else
      some (.s (.one (.v (.bool false))), []))
    else
    some (.s (.one (.v (.bool false))), []) := by kernel_rfl

/-! armplan/armplanref10.reached -/
theorem fn164 (n : Nat) (v1 : Int) (v2 : Int) (v3 : Int) (v4 : Int) (v5 : Int) (v6 : Int) : (lvl Try.prog HH (n + 5)).2 164 [.s (.agg true [.v (.int .i64 v1), .v (.int .i64 v2), .v (.int .i64 v3), .v (.int .i64 v4), .v (.int .i64 v5), .v (.int .i64 v6)])] [] =
    Option.bind (
      bif decide (v1 < (-268435456)) then (
        some (.ret, encSt S164_0_r ((false, ()), ())))
      else
      bif decide (v1 > v2) then (
        some (.ret, encSt S164_0_r ((false, ()), ())))
      else
      bif decide (v2 > 268435456) then (
        some (.ret, encSt S164_0_r ((false, ()), ())))
      else
      bif decide (v3 < (-268435456)) then (
        some (.ret, encSt S164_0_r ((false, ()), ())))
      else
      bif decide (v3 > v4) then (
        some (.ret, encSt S164_0_r ((false, ()), ())))
      else
      bif decide (v4 > 268435456) then (
        some (.ret, encSt S164_0_r ((false, ()), ())))
      else
      bif decide (v5 < (-268435456)) then (
        some (.ret, encSt S164_0_r ((false, ()), ())))
      else
      bif decide (v5 > v6) then (
        some (.ret, encSt S164_0_r ((false, ()), ())))
      else
      bif decide (v6 > 268435456) then (
        some (.ret, encSt S164_0_r ((false, ()), ())))
      else
      some (.exit 0, encSt S164_0_e0 ((), ()))) fun p7 =>
    bif sameEx (.ret) p7.1 then (decSt S164_0_r p7.2 fun x8 =>
      some (.s (.one (.v (.bool x8.1.1))), []))
    else
    bif sameEx (.exit 0) p7.1 then (decSt S164_0_e0 p7.2 fun x9 =>
      some (.s (.one (.v (.bool true))), []))
    else
    none := by kernel_rfl

/-! armplan/armplanref10.Placed -/
theorem loop130_0 (n : Nat) (v2 : List (List D1)) (v3 : Int) : (lvl Try.prog HH (n + 1)).1 ⟨130, 0, true⟩ 0 (loopOf Try.f130 0) (encSt S130_0 ((v2, v3, ()), ())) =
    bif decide (v3 < (((v2.length : Nat) : Int))) then (
      bif decide (v3 ≤ 8) then (
        bif decide (0 ≤ v3) then (
          (nth v2 v3.toNat).bind fun cs4 =>
          bif Nat.beq ((cs4.drop 0).take 6).length 6 then (
            decCts [.int .i64, .int .i64, .int .i64, .int .i64, .int .i64, .int .i64] ((cs4.drop 0).take 6) fun c5 =>
            callT (lvl Try.prog HH (n + 0)).2 164 [.s (.agg true [.v (.int .i64 c5.1), .v (.int .i64 c5.2.1), .v (.int .i64 c5.2.2.1), .v (.int .i64 c5.2.2.2.1), .v (.int .i64 c5.2.2.2.2.1), .v (.int .i64 c5.2.2.2.2.2.1)])] [] outs164 mouts164 fun y6 m7 =>
            bif !y6.1 then (
              some (.ret, encSt S130_0_r ((false, ()), ())))
            else
            letIn (IntKind.wrap .i64 (v3 + 1) : Int) fun n8 =>
            (lvl Try.prog HH (n + 0)).1 ⟨130, 0, true⟩ 0 (loopOf Try.f130 0) (encSt S130_0 ((v2, n8, ()), ())))
          else
          none)
        else
        none)
      else
      some (.exit 0, encSt S130_0_e0 ((v2, ()), ())))
    else
    some (.exit 0, encSt S130_0_e0 ((v2, ()), ())) := by kernel_rfl

theorem fn130 (n : Nat) (l1 : List (List D1)) : (lvl Try.prog HH (n + 1)).2 130 [.s (.one (.fr 6 l1))] [] =
    ((lvl Try.prog HH (n + 0)).1 ⟨130, 0, true⟩ 0 (loopOf Try.f130 0) (encSt S130_0 ((l1, 0, ()), ()))).bind fun p9 =>
    bif sameEx (.ret) p9.1 then (decSt S130_0_r p9.2 fun x10 =>
      some (.s (.one (.v (.bool x10.1.1))), []))
    else
    bif sameEx (.exit 0) p9.1 then (decSt S130_0_e0 p9.2 fun x11 =>
      bif decide ((((x11.1.1.length : Nat) : Int)) ≥ 1) then (
        some (.s (.one (.v (.bool (decide ((((x11.1.1.length : Nat) : Int)) ≤ 8))))), []))
      else
      some (.s (.one (.v (.bool false))), []))
    else
    none := by kernel_rfl

/-! armplan/shape.least -/
theorem loop101_0 (n : Nat) (v3 : Int) (v4 : List (List D1)) (v5 : Int) (v6 : Int) : (lvl Try.prog HH (n + 1)).1 ⟨101, 0, true⟩ 0 (loopOf Try.f101 0) (encSt S101_0 ((v3, v4, v5, v6, ()), ())) =
    bif decide (v6 < v5) then (
      bif decide (0 ≤ v6) then (
        (nth v4 v6.toNat).bind fun cs7 =>
        (nth cs7 0).bind fun d8 =>
        (asInt? .i64 d8).bind fun n9 =>
        letIn (if n9 < v3 then n9 else v3 : Int) fun n10 =>
        letIn (IntKind.wrap .i64 (v6 + 1) : Int) fun n11 =>
        (lvl Try.prog HH (n + 0)).1 ⟨101, 0, true⟩ 0 (loopOf Try.f101 0) (encSt S101_0 ((n10, v4, v5, n11, ()), ())))
      else
      none)
    else
    some (.exit 0, encSt S101_0_e0 ((v3, ()), ())) := by kernel_rfl

theorem fn101 (n : Nat) (first1 : Int) (l2 : List (List D1)) : (lvl Try.prog HH (n + 1)).2 101 [.s (.one (.v (.int .i64 first1))), .s (.one (.fr 1 l2))] [] =
    ((lvl Try.prog HH (n + 0)).1 ⟨101, 0, true⟩ 0 (loopOf Try.f101 0) (encSt S101_0 ((first1, l2, (((l2.length : Nat) : Int)), 0, ()), ()))).bind fun p12 =>
    bif sameEx (.exit 0) p12.1 then (decSt S101_0_e0 p12.2 fun x13 =>
      some (.s (.one (.v (.int .i64 x13.1.1))), []))
    else
    none := by kernel_rfl

/-! armplan/shape.Bound -/
theorem loop42_0 (n : Nat) (v5 : List (List D1)) (v6 : Int) (v7 : Int) (c8 : Int) (c9 : Int) (c10 : Int) (c11 : Int) (c12 : Int) (c13 : Int) (c14 : Int) (c15 : Int) (c16 : Int) (c17 : Int) (c18 : Int) (c19 : Int) : (lvl Try.prog HH (n + 1)).1 ⟨42, 0, true⟩ 0 (loopOf Try.f42 0) (encSt S42_0 ((v5, v6, (), (), v7, ()), ((c8, c9, c10, c11, c12, c13, ()), (c14, c15, c16, c17, c18, c19, ()), ()))) =
    bif decide (v7 < 3) then (
      ((lvl Try.prog HH (n + 0)).1 ⟨42, 0, true⟩ 2 (loopOf Try.f42 2) (encSt S42_2 ((v5, v6, (), (), v7, (), (), v7, v5, (((v5.length : Nat) : Int)), 0, ()), ((c8, c9, c10, c11, c12, c13, ()), (c14, c15, c16, c17, c18, c19, ()), [], [], ())))).bind fun p49 =>
      bif sameEx (.exit 2) p49.1 then (decSt S42_2_e2 p49.2 fun x50 =>
        (nth x50.2.2.2.1 0).bind fun cs51 =>
        (nth x50.2.2.2.1 0).bind fun cs52 =>
        (nth cs52 0).bind fun d53 =>
        (asInt? .i64 d53).bind fun n54 =>
        callT (lvl Try.prog HH (n + 0)).2 101 [.s (.one (.v (.int .i64 n54))), .s (.one (.fr 1 x50.2.2.2.1))] [] outs101 mouts101 fun y55 m56 =>
        letIn (IntKind.wrap .i64 (y55.1 - x50.1.2.1) : Int) fun n57 =>
        (nth x50.2.2.2.2.1 0).bind fun cs58 =>
        (nth x50.2.2.2.2.1 0).bind fun cs59 =>
        (nth cs59 0).bind fun d60 =>
        (asInt? .i64 d60).bind fun n61 =>
        callT (lvl Try.prog HH (n + 0)).2 101 [.s (.one (.v (.int .i64 n61))), .s (.one (.fr 1 x50.2.2.2.2.1))] [] outs101 mouts101 fun y62 m63 =>
        letIn (IntKind.wrap .i64 (x50.1.2.1 - y62.1) : Int) fun n64 =>
        bif (decide (0 ≤ x50.1.2.2.2.2.1)) && (decide (x50.1.2.2.2.2.1 < 3)) then (
          (setCells [.v (.int .i64 x50.2.2.1.1), .v (.int .i64 x50.2.2.1.2.1), .v (.int .i64 x50.2.2.1.2.2.1), .v (.int .i64 x50.2.2.1.2.2.2.1), .v (.int .i64 x50.2.2.1.2.2.2.2.1), .v (.int .i64 x50.2.2.1.2.2.2.2.2.1)] (0 + (x50.1.2.2.2.2.1.toNat * 2)) [.v (.int .i64 n57), .v (.int .i64 n64)]).bind fun cs65 =>
          letIn (IntKind.wrap .i64 (x50.1.2.2.2.2.2.2.2.1 + 1) : Int) fun n66 =>
          decCts [.int .i64, .int .i64, .int .i64, .int .i64, .int .i64, .int .i64] cs65 fun c67 =>
          (lvl Try.prog HH (n + 0)).1 ⟨42, 0, true⟩ 0 (loopOf Try.f42 0) (encSt S42_0 ((x50.1.1, x50.1.2.1, (), (), n66, ()), ((x50.2.1.1, x50.2.1.2.1, x50.2.1.2.2.1, x50.2.1.2.2.2.1, x50.2.1.2.2.2.2.1, x50.2.1.2.2.2.2.2.1, ()), (c67.1, c67.2.1, c67.2.2.1, c67.2.2.2.1, c67.2.2.2.2.1, c67.2.2.2.2.2.1, ()), ()))))
        else
        none)
      else
      none)
    else
    some (.exit 0, encSt S42_0_e0 (((), (), ()), ((c8, c9, c10, c11, c12, c13, ()), (c14, c15, c16, c17, c18, c19, ()), ()))) := by kernel_rfl

theorem loop42_2 (n : Nat) (v20 : List (List D1)) (v21 : Int) (v22 : Int) (v23 : Int) (v24 : List (List D1)) (v25 : Int) (v26 : Int) (c27 : Int) (c28 : Int) (c29 : Int) (c30 : Int) (c31 : Int) (c32 : Int) (c33 : Int) (c34 : Int) (c35 : Int) (c36 : Int) (c37 : Int) (c38 : Int) (es39 : List (List D1)) (es40 : List (List D1)) : (lvl Try.prog HH (n + 1)).1 ⟨42, 0, true⟩ 2 (loopOf Try.f42 2) (encSt S42_2 ((v20, v21, (), (), v22, (), (), v23, v24, v25, v26, ()), ((c27, c28, c29, c30, c31, c32, ()), (c33, c34, c35, c36, c37, c38, ()), es39, es40, ()))) =
    bif decide (v26 < v25) then (
      bif decide (0 ≤ v26) then (
        (nth v24 v26.toNat).bind fun cs41 =>
        bif Nat.beq ((cs41.drop 0).take 6).length 6 then (
          decCts [.int .i64, .int .i64, .int .i64, .int .i64, .int .i64, .int .i64] ((cs41.drop 0).take 6) fun c42 =>
          bif (decide (0 ≤ v22)) && (decide (v22 < 3)) then (
            (nth ([.v (.int .i64 c42.1), .v (.int .i64 c42.2.1), .v (.int .i64 c42.2.2.1), .v (.int .i64 c42.2.2.2.1), .v (.int .i64 c42.2.2.2.2.1), .v (.int .i64 c42.2.2.2.2.2.1)] : List D1) (0 + (v22.toNat * 2))).bind fun d43 =>
            (asInt? .i64 d43).bind fun n44 =>
            bif decide ((es39.length + 1) * 8 ≤ 140737488355328) then (
              bif (decide (0 ≤ v22)) && (decide (v22 < 3)) then (
                (nth ([.v (.int .i64 c42.1), .v (.int .i64 c42.2.1), .v (.int .i64 c42.2.2.1), .v (.int .i64 c42.2.2.2.1), .v (.int .i64 c42.2.2.2.2.1), .v (.int .i64 c42.2.2.2.2.2.1)] : List D1) ((0 + (v22.toNat * 2)) + 1)).bind fun d45 =>
                (asInt? .i64 d45).bind fun n46 =>
                letIn (IntKind.wrap .i64 (0 - n46) : Int) fun n47 =>
                bif decide ((es40.length + 1) * 8 ≤ 140737488355328) then (
                  letIn (IntKind.wrap .i64 (v26 + 1) : Int) fun n48 =>
                  (lvl Try.prog HH (n + 0)).1 ⟨42, 0, true⟩ 2 (loopOf Try.f42 2) (encSt S42_2 ((v20, v21, (), (), v22, (), (), v23, v24, v25, n48, ()), ((c27, c28, c29, c30, c31, c32, ()), (c33, c34, c35, c36, c37, c38, ()), (es39 ++ ([[.v (.int .i64 n44)]] : List (List D1))), (es40 ++ ([[.v (.int .i64 n47)]] : List (List D1))), ()))))
                else
                none)
              else
              none)
            else
            none)
          else
          none)
        else
        none)
      else
      none)
    else
    some (.exit 2, encSt S42_2_e2 ((v20, v21, (), (), v22, (), (), v23, ()), ((c27, c28, c29, c30, c31, c32, ()), (c33, c34, c35, c36, c37, c38, ()), es39, es40, ()))) := by kernel_rfl

theorem fn42 (n : Nat) (l1 : List (List D1)) (radius2 : Int) : (lvl Try.prog HH (n + 1)).2 42 [.s (.one (.fr 6 l1)), .s (.one (.v (.int .i64 radius2)))] [] =
    callT (lvl Try.prog HH (n + 0)).2 99 [.s (.one (.fr 6 l1))] [] outs99 mouts99 fun y3 m4 =>
    bif !y3.1 then (
      some (.s (.agg true [.v (.int .i64 0), .v (.int .i64 0), .v (.int .i64 0), .v (.int .i64 0), .v (.int .i64 0), .v (.int .i64 0)]), []))
    else
    bif decide (radius2 < 0) then (
      some (.s (.agg true [.v (.int .i64 0), .v (.int .i64 0), .v (.int .i64 0), .v (.int .i64 0), .v (.int .i64 0), .v (.int .i64 0)]), []))
    else
    bif decide (radius2 > 1048576) then (
      some (.s (.agg true [.v (.int .i64 0), .v (.int .i64 0), .v (.int .i64 0), .v (.int .i64 0), .v (.int .i64 0), .v (.int .i64 0)]), []))
    else
    ((lvl Try.prog HH (n + 0)).1 ⟨42, 0, true⟩ 0 (loopOf Try.f42 0) (encSt S42_0 ((l1, radius2, (), (), 0, ()), ((0, 0, 0, 0, 0, 0, ()), (0, 0, 0, 0, 0, 0, ()), ())))).bind fun p68 =>
    bif sameEx (.exit 0) p68.1 then (decSt S42_0_e0 p68.2 fun x69 =>
      some (.s (.agg true [.v (.int .i64 x69.2.2.1.1), .v (.int .i64 x69.2.2.1.2.1), .v (.int .i64 x69.2.2.1.2.2.1), .v (.int .i64 x69.2.2.1.2.2.2.1), .v (.int .i64 x69.2.2.1.2.2.2.2.1), .v (.int .i64 x69.2.2.1.2.2.2.2.2.1)]), []))
    else
    none := by kernel_rfl

end Go.Proofs.Ytfpdjpleplhcgaa.Am
