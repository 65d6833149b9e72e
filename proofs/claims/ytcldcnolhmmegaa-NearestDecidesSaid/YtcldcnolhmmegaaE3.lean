/- PRINTED by amprint.py: what the abstract machine answers, function by function. -/
import Derived.Test.YtcldcnolhmmegaaH
import Derived.KernelRfl
set_option linter.unusedVariables false
set_option maxRecDepth 100000
namespace Go.Proofs.Ytcldcnolhmmegaa.Am
open Go Go.Proofs

/-! armplan/armplanmake.Total -/
theorem loop29_0 (n : Nat) (v2 : List (List D1)) (v3 : Int) (v4 : Int) : (lvl Try.prog HH (n + 1)).1 ⟨29, 0, true⟩ 0 (loopOf Try.f29 0) (encSt S29_0 ((v2, v3, v4, ()), ())) =
    bif decide (v4 < (((v2.length : Nat) : Int))) then (
      bif decide (0 ≤ v4) then (
        (nth v2 v4.toNat).bind fun cs5 =>
        (nth cs5 0).bind fun d6 =>
        (asInt? .i64 d6).bind fun n7 =>
        letIn (IntKind.wrap .i64 (v3 + n7) : Int) fun n8 =>
        letIn (IntKind.wrap .i64 (v4 + 1) : Int) fun n9 =>
        (lvl Try.prog HH (n + 0)).1 ⟨29, 0, true⟩ 0 (loopOf Try.f29 0) (encSt S29_0 ((v2, n8, n9, ()), ())))
      else
      none)
    else
    some (.exit 0, encSt S29_0_e0 ((v3, ()), ())) := by kernel_rfl

theorem fn29 (n : Nat) (l1 : List (List D1)) : (lvl Try.prog HH (n + 1)).2 29 [.s (.one (.fr 1 l1))] [] =
    ((lvl Try.prog HH (n + 0)).1 ⟨29, 0, true⟩ 0 (loopOf Try.f29 0) (encSt S29_0 ((l1, 0, 0, ()), ()))).bind fun p10 =>
    bif sameEx (.exit 0) p10.1 then (decSt S29_0_e0 p10.2 fun x11 =>
      some (.s (.one (.v (.int .i64 x11.1.1))), []))
    else
    none := by kernel_rfl

/-! armplan/armplanlaw14.weights -/
theorem loop15_0 (n : Nat) (v3 : List (List D1)) (v4 : Int) (v5 : Int) : (lvl Try.prog HH (n + 1)).1 ⟨15, 0, true⟩ 0 (loopOf Try.f15 0) (encSt S15_0 ((v3, v4, v5, ()), ())) =
    bif decide (v5 < (((v3.length : Nat) : Int))) then (
      bif decide (0 ≤ v5) then (
        (nth v3 v5.toNat).bind fun cs6 =>
        (nth cs6 0).bind fun d7 =>
        (asInt? .i64 d7).bind fun n8 =>
        bif decide (n8 < 0) then (
          some (.ret, encSt S15_0_r ((false, ()), ())))
        else
        bif decide (0 ≤ v5) then (
          (nth v3 v5.toNat).bind fun cs9 =>
          (nth cs9 0).bind fun d10 =>
          (asInt? .i64 d10).bind fun n11 =>
          bif decide (n11 > 65536) then (
            some (.ret, encSt S15_0_r ((false, ()), ())))
          else
          letIn (IntKind.wrap .i64 (v5 + 1) : Int) fun n12 =>
          (lvl Try.prog HH (n + 0)).1 ⟨15, 0, true⟩ 0 (loopOf Try.f15 0) (encSt S15_0 ((v3, v4, n12, ()), ())))
        else
        none)
      else
      none)
    else
    some (.exit 0, encSt S15_0_e0 ((v3, v4, ()), ())) := by kernel_rfl

theorem fn15 (n : Nat) (l1 : List (List D1)) (n2 : Int) : (lvl Try.prog HH (n + 1)).2 15 [.s (.one (.fr 1 l1)), .s (.one (.v (.int .i64 n2)))] [] =
    ((lvl Try.prog HH (n + 0)).1 ⟨15, 0, true⟩ 0 (loopOf Try.f15 0) (encSt S15_0 ((l1, n2, 0, ()), ()))).bind fun p13 =>
    bif sameEx (.ret) p13.1 then (decSt S15_0_r p13.2 fun x14 =>
      some (.s (.one (.v (.bool x14.1.1))), []))
    else
    bif sameEx (.exit 0) p13.1 then (decSt S15_0_e0 p13.2 fun x15 =>
      bif (((x15.1.1.length : Nat) : Int)) == x15.1.2.1 then (
        callT (lvl Try.prog HH (n + 0)).2 29 [.s (.one (.fr 1 x15.1.1))] [] outs29 mouts29 fun y16 m17 =>
        some (.s (.one (.v (.bool (y16.1 == 65536)))), []))
      else
      some (.s (.one (.v (.bool false))), []))
    else
    none := by kernel_rfl

/-! armplan/armplanref10.Combine -/
theorem loop62_0 (n : Nat) (v5 : List (List D1)) (v6 : List (List D1)) (v7 : Int) (v8 : Int) (c9 : Int) (c10 : Int) (c11 : Int) (c12 : Int) (c13 : Int) (c14 : Int) : (lvl Try.prog HH (n + 1)).1 ⟨62, 0, true⟩ 0 (loopOf Try.f62 0) (encSt S62_0 ((v5, v6, (), v7, v8, ()), ((c9, c10, c11, c12, c13, c14, ()), ()))) =
    bif decide (v8 < (((v6.length : Nat) : Int))) then (
      bif decide (0 ≤ v8) then (
        (nth v6 v8.toNat).bind fun cs15 =>
        (nth cs15 0).bind fun d16 =>
        (asInt? .i64 d16).bind fun n17 =>
        bif decide (n17 < 0) then (
          some (.ret, encSt S62_0_r (((), 0, false, ()), ((0, 0, 0, 0, 0, 0, ()), ()))))
        else
        bif decide (0 ≤ v8) then (
          (nth v6 v8.toNat).bind fun cs18 =>
          (nth cs18 0).bind fun d19 =>
          (asInt? .i64 d19).bind fun n20 =>
          letIn (IntKind.wrap .i64 (65536 - v7) : Int) fun n21 =>
          bif decide (n20 > n21) then (
            some (.ret, encSt S62_0_r (((), 0, false, ()), ((0, 0, 0, 0, 0, 0, ()), ()))))
          else
          bif decide (0 ≤ v8) then (
            (nth v6 v8.toNat).bind fun cs22 =>
            (nth cs22 0).bind fun d23 =>
            (asInt? .i64 d23).bind fun n24 =>
            letIn (IntKind.wrap .i64 (v7 + n24) : Int) fun n25 =>
            letIn (IntKind.wrap .i64 (v8 + 1) : Int) fun n26 =>
            (lvl Try.prog HH (n + 0)).1 ⟨62, 0, true⟩ 0 (loopOf Try.f62 0) (encSt S62_0 ((v5, v6, (), n25, n26, ()), ((c9, c10, c11, c12, c13, c14, ()), ()))))
          else
          none)
        else
        none)
      else
      none)
    else
    some (.exit 0, encSt S62_0_e0 ((v5, v6, (), v7, ()), ((c9, c10, c11, c12, c13, c14, ()), ()))) := by kernel_rfl

theorem loop62_2 (n : Nat) (v30 : List (List D1)) (v31 : List (List D1)) (v32 : Int) (v33 : Int) (c34 : Int) (c35 : Int) (c36 : Int) (c37 : Int) (c38 : Int) (c39 : Int) (c40 : Int) (c41 : Int) (c42 : Int) (c43 : Int) (c44 : Int) (c45 : Int) : (lvl Try.prog HH (n + 5)).1 ⟨62, 0, true⟩ 2 (loopOf Try.f62 2) (encSt S62_2 ((v30, v31, (), v32, (), v33, ()), ((c34, c35, c36, c37, c38, c39, ()), (c40, c41, c42, c43, c44, c45, ()), ()))) =
    bif decide (v33 < (((v30.length : Nat) : Int))) then (
      Option.bind (
        bif decide (0 ≤ v33) then (
          (nth v31 v33.toNat).bind fun cs46 =>
          (nth cs46 0).bind fun d47 =>
          (asInt? .i64 d47).bind fun n48 =>
          bif decide (0 ≤ v33) then (
            (nth v30 v33.toNat).bind fun cs49 =>
            (nth ((cs49.drop 0).drop 0) 0).bind fun d50 =>
            (asInt? .i64 d50).bind fun n51 =>
            letIn (IntKind.wrap .i64 (n48 * n51) : Int) fun n52 =>
            letIn (IntKind.wrap .i64 (c40 + n52) : Int) fun n53 =>
            bif decide (0 ≤ v33) then (
              (nth v31 v33.toNat).bind fun cs54 =>
              (nth cs54 0).bind fun d55 =>
              (asInt? .i64 d55).bind fun n56 =>
              bif decide (0 ≤ v33) then (
                (nth v30 v33.toNat).bind fun cs57 =>
                (nth ((cs57.drop 0).drop 1) 0).bind fun d58 =>
                (asInt? .i64 d58).bind fun n59 =>
                letIn (IntKind.wrap .i64 (n56 * n59) : Int) fun n60 =>
                letIn (IntKind.wrap .i64 (c41 + n60) : Int) fun n61 =>
                bif decide (0 ≤ v33) then (
                  (nth v31 v33.toNat).bind fun cs62 =>
                  (nth cs62 0).bind fun d63 =>
                  (asInt? .i64 d63).bind fun n64 =>
                  bif decide (0 ≤ v33) then (
                    (nth v30 v33.toNat).bind fun cs65 =>
                    (nth ((cs65.drop 2).drop 0) 0).bind fun d66 =>
                    (asInt? .i64 d66).bind fun n67 =>
                    letIn (IntKind.wrap .i64 (n64 * n67) : Int) fun n68 =>
                    letIn (IntKind.wrap .i64 (c42 + n68) : Int) fun n69 =>
                    bif decide (0 ≤ v33) then (
                      (nth v31 v33.toNat).bind fun cs70 =>
                      (nth cs70 0).bind fun d71 =>
                      (asInt? .i64 d71).bind fun n72 =>
                      bif decide (0 ≤ v33) then (
                        (nth v30 v33.toNat).bind fun cs73 =>
                        (nth ((cs73.drop 2).drop 1) 0).bind fun d74 =>
                        (asInt? .i64 d74).bind fun n75 =>
                        letIn (IntKind.wrap .i64 (n72 * n75) : Int) fun n76 =>
                        letIn (IntKind.wrap .i64 (c43 + n76) : Int) fun n77 =>
                        bif decide (0 ≤ v33) then (
                          (nth v31 v33.toNat).bind fun cs78 =>
                          (nth cs78 0).bind fun d79 =>
                          (asInt? .i64 d79).bind fun n80 =>
                          bif decide (0 ≤ v33) then (
                            (nth v30 v33.toNat).bind fun cs81 =>
                            (nth ((cs81.drop 4).drop 0) 0).bind fun d82 =>
                            (asInt? .i64 d82).bind fun n83 =>
                            letIn (IntKind.wrap .i64 (n80 * n83) : Int) fun n84 =>
                            letIn (IntKind.wrap .i64 (c44 + n84) : Int) fun n85 =>
                            bif decide (0 ≤ v33) then (
                              (nth v31 v33.toNat).bind fun cs86 =>
                              (nth cs86 0).bind fun d87 =>
                              (asInt? .i64 d87).bind fun n88 =>
                              bif decide (0 ≤ v33) then (
                                (nth v30 v33.toNat).bind fun cs89 =>
                                (nth ((cs89.drop 4).drop 1) 0).bind fun d90 =>
                                (asInt? .i64 d90).bind fun n91 =>
                                letIn (IntKind.wrap .i64 (n88 * n91) : Int) fun n92 =>
                                letIn (IntKind.wrap .i64 (c45 + n92) : Int) fun n93 =>
                                some (.exit 4, encSt S62_4_e4 ((v30, v31, (), v32, (), v33, ()), ((c34, c35, c36, c37, c38, c39, ()), (n53, n61, n69, n77, n85, n93, ()), ()))))
                              else
                              none)
                            else
                            none)
                          else
                          none)
                        else
                        none)
                      else
                      none)
                    else
                    none)
                  else
                  none)
                else
                none)
              else
              none)
            else
            none)
          else
          none)
        else
        none) fun p94 =>
      bif sameEx (.exit 4) p94.1 then (decSt S62_4_e4 p94.2 fun x95 =>
        letIn (IntKind.wrap .i64 (x95.1.2.2.2.2.2.1 + 1) : Int) fun n96 =>
        (lvl Try.prog HH (n + 4)).1 ⟨62, 0, true⟩ 2 (loopOf Try.f62 2) (encSt S62_2 ((x95.1.1, x95.1.2.1, (), x95.1.2.2.2.1, (), n96, ()), ((x95.2.1.1, x95.2.1.2.1, x95.2.1.2.2.1, x95.2.1.2.2.2.1, x95.2.1.2.2.2.2.1, x95.2.1.2.2.2.2.2.1, ()), (x95.2.2.1.1, x95.2.2.1.2.1, x95.2.2.1.2.2.1, x95.2.2.1.2.2.2.1, x95.2.2.1.2.2.2.2.1, x95.2.2.1.2.2.2.2.2.1, ()), ()))))
      else
      none)
    else
    some (.exit 2, encSt S62_2_e2 (((), v32, (), ()), ((c34, c35, c36, c37, c38, c39, ()), (c40, c41, c42, c43, c44, c45, ()), ()))) := by kernel_rfl

theorem fn62 (n : Nat) (l1 : List (List D1)) (weights2 : List (List D1)) : (lvl Try.prog HH (n + 1)).2 62 [.s (.one (.fr 6 l1)), .s (.one (.fr 1 weights2))] [] =
    callT (lvl Try.prog HH (n + 0)).2 31 [.s (.one (.fr 6 l1))] [] outs31 mouts31 fun y3 m4 =>
    bif !y3.1 then (
      some (.tup [.agg true [.v (.int .i64 0), .v (.int .i64 0), .v (.int .i64 0), .v (.int .i64 0), .v (.int .i64 0), .v (.int .i64 0)], .one (.v (.int .i64 0)), .one (.v (.bool false))], []))
    else
    bif (((weights2.length : Nat) : Int)) != (((l1.length : Nat) : Int)) then (
      some (.tup [.agg true [.v (.int .i64 0), .v (.int .i64 0), .v (.int .i64 0), .v (.int .i64 0), .v (.int .i64 0), .v (.int .i64 0)], .one (.v (.int .i64 0)), .one (.v (.bool false))], []))
    else
    ((lvl Try.prog HH (n + 0)).1 ⟨62, 0, true⟩ 0 (loopOf Try.f62 0) (encSt S62_0 ((l1, weights2, (), 0, 0, ()), ((0, 0, 0, 0, 0, 0, ()), ())))).bind fun p27 =>
    bif sameEx (.ret) p27.1 then (decSt S62_0_r p27.2 fun x28 =>
      some (.tup [.agg true [.v (.int .i64 x28.2.1.1), .v (.int .i64 x28.2.1.2.1), .v (.int .i64 x28.2.1.2.2.1), .v (.int .i64 x28.2.1.2.2.2.1), .v (.int .i64 x28.2.1.2.2.2.2.1), .v (.int .i64 x28.2.1.2.2.2.2.2.1)], .one (.v (.int .i64 x28.1.2.1)), .one (.v (.bool x28.1.2.2.1))], []))
    else
    bif sameEx (.exit 0) p27.1 then (decSt S62_0_e0 p27.2 fun x29 =>
      bif decide (x29.1.2.2.2.1 < 1) then (
        some (.tup [.agg true [.v (.int .i64 0), .v (.int .i64 0), .v (.int .i64 0), .v (.int .i64 0), .v (.int .i64 0), .v (.int .i64 0)], .one (.v (.int .i64 0)), .one (.v (.bool false))], []))
      else
      ((lvl Try.prog HH (n + 0)).1 ⟨62, 0, true⟩ 2 (loopOf Try.f62 2) (encSt S62_2 ((x29.1.1, x29.1.2.1, (), x29.1.2.2.2.1, (), 0, ()), ((x29.2.1.1, x29.2.1.2.1, x29.2.1.2.2.1, x29.2.1.2.2.2.1, x29.2.1.2.2.2.2.1, x29.2.1.2.2.2.2.2.1, ()), (0, 0, 0, 0, 0, 0, ()), ())))).bind fun p97 =>
      bif sameEx (.exit 2) p97.1 then (decSt S62_2_e2 p97.2 fun x98 =>
        some (.tup [.agg true [.v (.int .i64 x98.2.2.1.1), .v (.int .i64 x98.2.2.1.2.1), .v (.int .i64 x98.2.2.1.2.2.1), .v (.int .i64 x98.2.2.1.2.2.2.1), .v (.int .i64 x98.2.2.1.2.2.2.2.1), .v (.int .i64 x98.2.2.1.2.2.2.2.2.1)], .one (.v (.int .i64 x98.1.2.1)), .one (.v (.bool true))], []))
      else
      none)
    else
    none := by kernel_rfl

/-! armplan/armplanref14.radius -/
theorem fn63 (n : Nat) (r1 : Int) : (lvl Try.prog HH (n + 1)).2 63 [.s (.one (.v (.int .i64 r1)))] [] =
    bif decide (r1 ≥ 0) then (
      some (.s (.one (.v (.bool (decide (r1 ≤ 1048576))))), []))
    else
    some (.s (.one (.v (.bool false))), []) := by kernel_rfl

/-! armplan/armplanref14.size -/
theorem fn65 (n : Nat) (x1 : Int) : (lvl Try.prog HH (n + 1)).2 65 [.s (.one (.v (.int .i64 x1)))] [] =
    letIn (IntKind.wrap .i64 (0 - x1) : Int) fun n2 =>
    letIn (if n2 > x1 then n2 else x1 : Int) fun n3 =>
    some (.s (.one (.v (.int .i64 n3))), []) := by kernel_rfl

/-! armplan/armplanref1.Ceil -/
theorem fn64 (n : Nat) (a1 : Int) (b2 : Int) : (lvl Try.prog HH (n + 1)).2 64 [.s (.one (.v (.int .i64 a1))), .s (.one (.v (.int .i64 b2)))] [] =
    bif b2 == 0 then (
      none)
    else
    letIn (IntKind.wrap .i64 (Int.tdiv a1 b2) : Int) fun n3 =>
    bif b2 == 0 then (
      none)
    else
    letIn (Int.tmod a1 b2 : Int) fun n4 =>
    bif decide (n4 > 0) then (
      letIn (IntKind.wrap .i64 (n3 + 1) : Int) fun n5 =>
      some (.s (.one (.v (.int .i64 n5))), []))
    else
    some (.s (.one (.v (.int .i64 n3))), []) := by kernel_rfl

/-! armplan/armplanref14.Excess -/
theorem fn35_w (w : CallF → CallF) (v : LoopF → LoopF) (n : Nat) (left1 : List (List D1)) (right2 : List (List D1)) (a3 : List (List D1)) (ra4 : Int) (b5 : List (List D1)) (rb6 : Int) : (lvlW w v symL Try.prog HH (n + 5)).2 35 [.s (.one (.fr 1 left1)), .s (.one (.fr 1 right2)), .s (.one (.fr 6 a3)), .s (.one (.v (.int .i64 ra4))), .s (.one (.fr 6 b5)), .s (.one (.v (.int .i64 rb6)))] [] =
    callT (w (lvlW w v symL Try.prog HH (n + 4)).2) 62 [.s (.one (.fr 6 a3)), .s (.one (.fr 1 left1))] [] outs62 mouts62 fun y7 m8 =>
    callT (w (lvlW w v symL Try.prog HH (n + 4)).2) 62 [.s (.one (.fr 6 b5)), .s (.one (.fr 1 right2))] [] outs62 mouts62 fun y9 m10 =>
    bif !y7.2.2.1 then (
      some (.tup [.one (.v (.int .i64 0)), .one (.v (.bool false))], []))
    else
    bif !y9.2.2.1 then (
      some (.tup [.one (.v (.int .i64 0)), .one (.v (.bool false))], []))
    else
    bif y7.2.1 != y9.2.1 then (
      some (.tup [.one (.v (.int .i64 0)), .one (.v (.bool false))], []))
    else
    callT (w (lvlW w v symL Try.prog HH (n + 4)).2) 63 [.s (.one (.v (.int .i64 ra4)))] [] outs63 mouts63 fun y11 m12 =>
    bif !y11.1 then (
      some (.tup [.one (.v (.int .i64 0)), .one (.v (.bool false))], []))
    else
    callT (w (lvlW w v symL Try.prog HH (n + 4)).2) 63 [.s (.one (.v (.int .i64 rb6)))] [] outs63 mouts63 fun y13 m14 =>
    bif !y13.1 then (
      some (.tup [.one (.v (.int .i64 0)), .one (.v (.bool false))], []))
    else
    letIn (IntKind.wrap .i64 (ra4 + rb6) : Int) fun n15 =>
    letIn (IntKind.wrap .i64 (ra4 + rb6) : Int) fun n16 =>
    letIn (IntKind.wrap .i64 (n15 * n16) : Int) fun n17 =>
    Option.bind (
      letIn (IntKind.wrap .i64 (y7.1.1 - y9.1.2.1) : Int) fun n18 =>
      callT (w (lvlW w v symL Try.prog HH (n + 3)).2) 65 [.s (.one (.v (.int .i64 n18)))] [] outs65 mouts65 fun y19 m20 =>
      letIn (IntKind.wrap .i64 (y7.1.2.1 - y9.1.1) : Int) fun n21 =>
      callT (w (lvlW w v symL Try.prog HH (n + 3)).2) 65 [.s (.one (.v (.int .i64 n21)))] [] outs65 mouts65 fun y22 m23 =>
      letIn (if y22.1 > y19.1 then y22.1 else y19.1 : Int) fun n24 =>
      callT (w (lvlW w v symL Try.prog HH (n + 3)).2) 64 [.s (.one (.v (.int .i64 n24))), .s (.one (.v (.int .i64 y7.2.1)))] [] outs64 mouts64 fun y25 m26 =>
      letIn (IntKind.wrap .i64 (ra4 + rb6) : Int) fun n27 =>
      bif decide (y25.1 > n27) then (
        some (.ret, encSt S35_0_r (((-1), true, ()), ())))
      else
      letIn (IntKind.wrap .i64 (y25.1 * y25.1) : Int) fun n28 =>
      letIn (IntKind.wrap .i64 (n17 - n28) : Int) fun n29 =>
      letIn (IntKind.wrap .i64 (y7.1.2.2.1 - y9.1.2.2.2.1) : Int) fun n30 =>
      callT (w (lvlW w v symL Try.prog HH (n + 2)).2) 65 [.s (.one (.v (.int .i64 n30)))] [] outs65 mouts65 fun y31 m32 =>
      letIn (IntKind.wrap .i64 (y7.1.2.2.2.1 - y9.1.2.2.1) : Int) fun n33 =>
      callT (w (lvlW w v symL Try.prog HH (n + 2)).2) 65 [.s (.one (.v (.int .i64 n33)))] [] outs65 mouts65 fun y34 m35 =>
      letIn (if y34.1 > y31.1 then y34.1 else y31.1 : Int) fun n36 =>
      callT (w (lvlW w v symL Try.prog HH (n + 2)).2) 64 [.s (.one (.v (.int .i64 n36))), .s (.one (.v (.int .i64 y7.2.1)))] [] outs64 mouts64 fun y37 m38 =>
      letIn (IntKind.wrap .i64 (ra4 + rb6) : Int) fun n39 =>
      bif decide (y37.1 > n39) then (
        some (.ret, encSt S35_0_r (((-1), true, ()), ())))
      else
      letIn (IntKind.wrap .i64 (y37.1 * y37.1) : Int) fun n40 =>
      letIn (IntKind.wrap .i64 (n29 - n40) : Int) fun n41 =>
      letIn (IntKind.wrap .i64 (y7.1.2.2.2.2.1 - y9.1.2.2.2.2.2.1) : Int) fun n42 =>
      callT (w (lvlW w v symL Try.prog HH (n + 1)).2) 65 [.s (.one (.v (.int .i64 n42)))] [] outs65 mouts65 fun y43 m44 =>
      letIn (IntKind.wrap .i64 (y7.1.2.2.2.2.2.1 - y9.1.2.2.2.2.1) : Int) fun n45 =>
      callT (w (lvlW w v symL Try.prog HH (n + 1)).2) 65 [.s (.one (.v (.int .i64 n45)))] [] outs65 mouts65 fun y46 m47 =>
      letIn (if y46.1 > y43.1 then y46.1 else y43.1 : Int) fun n48 =>
      callT (w (lvlW w v symL Try.prog HH (n + 1)).2) 64 [.s (.one (.v (.int .i64 n48))), .s (.one (.v (.int .i64 y7.2.1)))] [] outs64 mouts64 fun y49 m50 =>
      letIn (IntKind.wrap .i64 (ra4 + rb6) : Int) fun n51 =>
      bif decide (y49.1 > n51) then (
        some (.ret, encSt S35_0_r (((-1), true, ()), ())))
      else
      letIn (IntKind.wrap .i64 (y49.1 * y49.1) : Int) fun n52 =>
      letIn (IntKind.wrap .i64 (n41 - n52) : Int) fun n53 =>
      some (.exit 0, encSt S35_0_e0 ((n53, ()), ()))) fun p54 =>
    bif sameEx (.ret) p54.1 then (decSt S35_0_r p54.2 fun x55 =>
      some (.tup [.one (.v (.int .i64 x55.1.1)), .one (.v (.bool x55.1.2.1))], []))
    else
    bif sameEx (.exit 0) p54.1 then (decSt S35_0_e0 p54.2 fun x56 =>
      some (.tup [.one (.v (.int .i64 x56.1.1)), .one (.v (.bool true))], []))
    else
    none := by kernel_rfl
theorem fn35 (n : Nat) (left1 : List (List D1)) (right2 : List (List D1)) (a3 : List (List D1)) (ra4 : Int) (b5 : List (List D1)) (rb6 : Int) : (lvl Try.prog HH (n + 5)).2 35 [.s (.one (.fr 1 left1)), .s (.one (.fr 1 right2)), .s (.one (.fr 6 a3)), .s (.one (.v (.int .i64 ra4))), .s (.one (.fr 6 b5)), .s (.one (.v (.int .i64 rb6)))] [] =
    callT (lvl Try.prog HH (n + 4)).2 62 [.s (.one (.fr 6 a3)), .s (.one (.fr 1 left1))] [] outs62 mouts62 fun y7 m8 =>
    callT (lvl Try.prog HH (n + 4)).2 62 [.s (.one (.fr 6 b5)), .s (.one (.fr 1 right2))] [] outs62 mouts62 fun y9 m10 =>
    bif !y7.2.2.1 then (
      some (.tup [.one (.v (.int .i64 0)), .one (.v (.bool false))], []))
    else
    bif !y9.2.2.1 then (
      some (.tup [.one (.v (.int .i64 0)), .one (.v (.bool false))], []))
    else
    bif y7.2.1 != y9.2.1 then (
      some (.tup [.one (.v (.int .i64 0)), .one (.v (.bool false))], []))
    else
    callT (lvl Try.prog HH (n + 4)).2 63 [.s (.one (.v (.int .i64 ra4)))] [] outs63 mouts63 fun y11 m12 =>
    bif !y11.1 then (
      some (.tup [.one (.v (.int .i64 0)), .one (.v (.bool false))], []))
    else
    callT (lvl Try.prog HH (n + 4)).2 63 [.s (.one (.v (.int .i64 rb6)))] [] outs63 mouts63 fun y13 m14 =>
    bif !y13.1 then (
      some (.tup [.one (.v (.int .i64 0)), .one (.v (.bool false))], []))
    else
    letIn (IntKind.wrap .i64 (ra4 + rb6) : Int) fun n15 =>
    letIn (IntKind.wrap .i64 (ra4 + rb6) : Int) fun n16 =>
    letIn (IntKind.wrap .i64 (n15 * n16) : Int) fun n17 =>
    Option.bind (
      letIn (IntKind.wrap .i64 (y7.1.1 - y9.1.2.1) : Int) fun n18 =>
      callT (lvl Try.prog HH (n + 3)).2 65 [.s (.one (.v (.int .i64 n18)))] [] outs65 mouts65 fun y19 m20 =>
      letIn (IntKind.wrap .i64 (y7.1.2.1 - y9.1.1) : Int) fun n21 =>
      callT (lvl Try.prog HH (n + 3)).2 65 [.s (.one (.v (.int .i64 n21)))] [] outs65 mouts65 fun y22 m23 =>
      letIn (if y22.1 > y19.1 then y22.1 else y19.1 : Int) fun n24 =>
      callT (lvl Try.prog HH (n + 3)).2 64 [.s (.one (.v (.int .i64 n24))), .s (.one (.v (.int .i64 y7.2.1)))] [] outs64 mouts64 fun y25 m26 =>
      letIn (IntKind.wrap .i64 (ra4 + rb6) : Int) fun n27 =>
      bif decide (y25.1 > n27) then (
        some (.ret, encSt S35_0_r (((-1), true, ()), ())))
      else
      letIn (IntKind.wrap .i64 (y25.1 * y25.1) : Int) fun n28 =>
      letIn (IntKind.wrap .i64 (n17 - n28) : Int) fun n29 =>
      letIn (IntKind.wrap .i64 (y7.1.2.2.1 - y9.1.2.2.2.1) : Int) fun n30 =>
      callT (lvl Try.prog HH (n + 2)).2 65 [.s (.one (.v (.int .i64 n30)))] [] outs65 mouts65 fun y31 m32 =>
      letIn (IntKind.wrap .i64 (y7.1.2.2.2.1 - y9.1.2.2.1) : Int) fun n33 =>
      callT (lvl Try.prog HH (n + 2)).2 65 [.s (.one (.v (.int .i64 n33)))] [] outs65 mouts65 fun y34 m35 =>
      letIn (if y34.1 > y31.1 then y34.1 else y31.1 : Int) fun n36 =>
      callT (lvl Try.prog HH (n + 2)).2 64 [.s (.one (.v (.int .i64 n36))), .s (.one (.v (.int .i64 y7.2.1)))] [] outs64 mouts64 fun y37 m38 =>
      letIn (IntKind.wrap .i64 (ra4 + rb6) : Int) fun n39 =>
      bif decide (y37.1 > n39) then (
        some (.ret, encSt S35_0_r (((-1), true, ()), ())))
      else
      letIn (IntKind.wrap .i64 (y37.1 * y37.1) : Int) fun n40 =>
      letIn (IntKind.wrap .i64 (n29 - n40) : Int) fun n41 =>
      letIn (IntKind.wrap .i64 (y7.1.2.2.2.2.1 - y9.1.2.2.2.2.2.1) : Int) fun n42 =>
      callT (lvl Try.prog HH (n + 1)).2 65 [.s (.one (.v (.int .i64 n42)))] [] outs65 mouts65 fun y43 m44 =>
      letIn (IntKind.wrap .i64 (y7.1.2.2.2.2.2.1 - y9.1.2.2.2.2.1) : Int) fun n45 =>
      callT (lvl Try.prog HH (n + 1)).2 65 [.s (.one (.v (.int .i64 n45)))] [] outs65 mouts65 fun y46 m47 =>
      letIn (if y46.1 > y43.1 then y46.1 else y43.1 : Int) fun n48 =>
      callT (lvl Try.prog HH (n + 1)).2 64 [.s (.one (.v (.int .i64 n48))), .s (.one (.v (.int .i64 y7.2.1)))] [] outs64 mouts64 fun y49 m50 =>
      letIn (IntKind.wrap .i64 (ra4 + rb6) : Int) fun n51 =>
      bif decide (y49.1 > n51) then (
        some (.ret, encSt S35_0_r (((-1), true, ()), ())))
      else
      letIn (IntKind.wrap .i64 (y49.1 * y49.1) : Int) fun n52 =>
      letIn (IntKind.wrap .i64 (n41 - n52) : Int) fun n53 =>
      some (.exit 0, encSt S35_0_e0 ((n53, ()), ()))) fun p54 =>
    bif sameEx (.ret) p54.1 then (decSt S35_0_r p54.2 fun x55 =>
      some (.tup [.one (.v (.int .i64 x55.1.1)), .one (.v (.bool x55.1.2.1))], []))
    else
    bif sameEx (.exit 0) p54.1 then (decSt S35_0_e0 p54.2 fun x56 =>
      some (.tup [.one (.v (.int .i64 x56.1.1)), .one (.v (.bool true))], []))
    else
    none := by
  have h := fn35_w (fun x => x) (fun x => x) n left1 right2 a3 ra4 b5 rb6
  rw [lvlW_id] at h
  exact h

/-! armplan/armplanref14.Overlaps -/
theorem fn20 (n : Nat) (left1 : List (List D1)) (right2 : List (List D1)) (a3 : List (List D1)) (ra4 : Int) (b5 : List (List D1)) (rb6 : Int) : (lvl Try.prog HH (n + 1)).2 20 [.s (.one (.fr 1 left1)), .s (.one (.fr 1 right2)), .s (.one (.fr 6 a3)), .s (.one (.v (.int .i64 ra4))), .s (.one (.fr 6 b5)), .s (.one (.v (.int .i64 rb6)))] [] =
    callT (lvl Try.prog HH (n + 0)).2 35 [.s (.one (.fr 1 left1)), .s (.one (.fr 1 right2)), .s (.one (.fr 6 a3)), .s (.one (.v (.int .i64 ra4))), .s (.one (.fr 6 b5)), .s (.one (.v (.int .i64 rb6)))] [] outs35 mouts35 fun y7 m8 =>
    bif y7.2.1 then (
      some (.s (.one (.v (.bool (decide (y7.1 ≥ 0))))), []))
    else
    some (.s (.one (.v (.bool false))), []) := by kernel_rfl

/-! armplan/armplanlaw14.NearestDecides -/
theorem fn5_w (w : CallF → CallF) (v : LoopF → LoopF) (n : Nat) (l1 : List (List D1)) (m2 : List (List D1)) (rho3 : Int) : (lvlW w v symL Try.prog HH (n + 1)).2 5 [.s (.one (.fr 1 l1)), .s (.one (.fr 1 m2)), .s (.one (.v (.int .i64 rho3)))] [] =
    callT (w (lvlW w v symL Try.prog HH (n + 0)).2) 10 [.s (.one (.fr 1 l1)), .s (.one (.fr 1 m2)), .s (.one (.v (.int .i64 rho3)))] [] outs10 mouts10 fun y4 m5 =>
    callT (w (lvlW w v symL Try.prog HH (n + 0)).2) 14 [.s (.one (.fr 3 y4.1)), .s (.one (.fr 3 y4.2.1)), .s (.one (.v (.int .i64 y4.2.2.1))), .s (.one (.v (.int .i64 64)))] [] outs14 mouts14 fun y6 m7 =>
    bif y6.1.1 == 1 then (
      callT (w (lvlW w v symL Try.prog HH (n + 0)).2) 17 [.s (.one (.fr 3 y4.1))] [] outs17 mouts17 fun y8 m9 =>
      callT (w (lvlW w v symL Try.prog HH (n + 0)).2) 16 [.s (.agg true [.v (.int .i64 y6.1.2.1), .v (.int .i64 y6.1.2.2.1), .v (.int .i64 y6.1.2.2.2.1)]), .s (.one (.fr 6 y8.1))] [] outs16 mouts16 fun y10 m11 =>
      callT (w (lvlW w v symL Try.prog HH (n + 0)).2) 17 [.s (.one (.fr 3 y4.2.1))] [] outs17 mouts17 fun y12 m13 =>
      callT (w (lvlW w v symL Try.prog HH (n + 0)).2) 18 [.s (.agg true [.v (.int .i64 y6.1.2.1), .v (.int .i64 y6.1.2.2.1), .v (.int .i64 y6.1.2.2.2.1)]), .s (.one (.fr 6 y12.1))] [] outs18 mouts18 fun y14 m15 =>
      callT (w (lvlW w v symL Try.prog HH (n + 0)).2) 12 [] [] outs12 mouts12 fun y16 m17 =>
      bif y16.1 then (
        bif y10.2.2.1 then (
          bif y14.2.2.1 then (
            letIn (IntKind.wrap .i64 (y10.1 - y14.1) : Int) fun n18 =>
            callT (w (lvlW w v symL Try.prog HH (n + 0)).2) 19 [.s (.agg true [.v (.int .i64 y6.1.2.1), .v (.int .i64 y6.1.2.2.1), .v (.int .i64 y6.1.2.2.2.1)])] [] outs19 mouts19 fun y19 m20 =>
            letIn (IntKind.wrap .i64 (y19.1 * y4.2.2.1) : Int) fun n21 =>
            some (.s (.one (.v (.bool (decide (n18 > n21))))), []))
          else
          some (.s (.one (.v (.bool false))), []))
        else
        some (.s (.one (.v (.bool false))), []))
      else
      some (.s (.one (.v (.bool false))), []))
    else
    bif y6.1.1 == 2 then (
      callT (w (lvlW w v symL Try.prog HH (n + 0)).2) 12 [] [] outs12 mouts12 fun y22 m23 =>
      bif y22.1 then (
        callT (w (lvlW w v symL Try.prog HH (n + 0)).2) 15 [.s (.one (.fr 1 y6.1.2.2.2.2.1)), .s (.one (.v (.int .i64 (((y4.1.length : Nat) : Int)))))] [] outs15 mouts15 fun y24 m25 =>
        bif y24.1 then (
          callT (w (lvlW w v symL Try.prog HH (n + 0)).2) 15 [.s (.one (.fr 1 y6.1.2.2.2.2.2.1)), .s (.one (.v (.int .i64 (((y4.2.1.length : Nat) : Int)))))] [] outs15 mouts15 fun y26 m27 =>
          bif y26.1 then (
            callT (w (lvlW w v symL Try.prog HH (n + 0)).2) 17 [.s (.one (.fr 3 y4.1))] [] outs17 mouts17 fun y28 m29 =>
            letIn (IntKind.wrap .i64 (Int.tdiv y4.2.2.1 2) : Int) fun n30 =>
            callT (w (lvlW w v symL Try.prog HH (n + 0)).2) 17 [.s (.one (.fr 3 y4.2.1))] [] outs17 mouts17 fun y31 m32 =>
            letIn (IntKind.wrap .i64 (Int.tdiv y4.2.2.1 2) : Int) fun n33 =>
            letIn (IntKind.wrap .i64 (y4.2.2.1 - n33) : Int) fun n34 =>
            callT (w (lvlW w v symL Try.prog HH (n + 0)).2) 20 [.s (.one (.fr 1 y6.1.2.2.2.2.1)), .s (.one (.fr 1 y6.1.2.2.2.2.2.1)), .s (.one (.fr 6 y28.1)), .s (.one (.v (.int .i64 n30))), .s (.one (.fr 6 y31.1)), .s (.one (.v (.int .i64 n34)))] [] outs20 mouts20 fun y35 m36 =>
            some (.s (.one (.v (.bool y35.1))), []))
          else
          some (.s (.one (.v (.bool false))), []))
        else
        some (.s (.one (.v (.bool false))), []))
      else
      some (.s (.one (.v (.bool false))), []))
    else
    callT (w (lvlW w v symL Try.prog HH (n + 0)).2) 12 [] [] outs12 mouts12 fun y37 m38 =>
    some (.s (.one (.v (.bool y37.1))), []) := by kernel_rfl
theorem fn5 (n : Nat) (l1 : List (List D1)) (m2 : List (List D1)) (rho3 : Int) : (lvl Try.prog HH (n + 1)).2 5 [.s (.one (.fr 1 l1)), .s (.one (.fr 1 m2)), .s (.one (.v (.int .i64 rho3)))] [] =
    callT (lvl Try.prog HH (n + 0)).2 10 [.s (.one (.fr 1 l1)), .s (.one (.fr 1 m2)), .s (.one (.v (.int .i64 rho3)))] [] outs10 mouts10 fun y4 m5 =>
    callT (lvl Try.prog HH (n + 0)).2 14 [.s (.one (.fr 3 y4.1)), .s (.one (.fr 3 y4.2.1)), .s (.one (.v (.int .i64 y4.2.2.1))), .s (.one (.v (.int .i64 64)))] [] outs14 mouts14 fun y6 m7 =>
    bif y6.1.1 == 1 then (
      callT (lvl Try.prog HH (n + 0)).2 17 [.s (.one (.fr 3 y4.1))] [] outs17 mouts17 fun y8 m9 =>
      callT (lvl Try.prog HH (n + 0)).2 16 [.s (.agg true [.v (.int .i64 y6.1.2.1), .v (.int .i64 y6.1.2.2.1), .v (.int .i64 y6.1.2.2.2.1)]), .s (.one (.fr 6 y8.1))] [] outs16 mouts16 fun y10 m11 =>
      callT (lvl Try.prog HH (n + 0)).2 17 [.s (.one (.fr 3 y4.2.1))] [] outs17 mouts17 fun y12 m13 =>
      callT (lvl Try.prog HH (n + 0)).2 18 [.s (.agg true [.v (.int .i64 y6.1.2.1), .v (.int .i64 y6.1.2.2.1), .v (.int .i64 y6.1.2.2.2.1)]), .s (.one (.fr 6 y12.1))] [] outs18 mouts18 fun y14 m15 =>
      callT (lvl Try.prog HH (n + 0)).2 12 [] [] outs12 mouts12 fun y16 m17 =>
      bif y16.1 then (
        bif y10.2.2.1 then (
          bif y14.2.2.1 then (
            letIn (IntKind.wrap .i64 (y10.1 - y14.1) : Int) fun n18 =>
            callT (lvl Try.prog HH (n + 0)).2 19 [.s (.agg true [.v (.int .i64 y6.1.2.1), .v (.int .i64 y6.1.2.2.1), .v (.int .i64 y6.1.2.2.2.1)])] [] outs19 mouts19 fun y19 m20 =>
            letIn (IntKind.wrap .i64 (y19.1 * y4.2.2.1) : Int) fun n21 =>
            some (.s (.one (.v (.bool (decide (n18 > n21))))), []))
          else
          some (.s (.one (.v (.bool false))), []))
        else
        some (.s (.one (.v (.bool false))), []))
      else
      some (.s (.one (.v (.bool false))), []))
    else
    bif y6.1.1 == 2 then (
      callT (lvl Try.prog HH (n + 0)).2 12 [] [] outs12 mouts12 fun y22 m23 =>
      bif y22.1 then (
        callT (lvl Try.prog HH (n + 0)).2 15 [.s (.one (.fr 1 y6.1.2.2.2.2.1)), .s (.one (.v (.int .i64 (((y4.1.length : Nat) : Int)))))] [] outs15 mouts15 fun y24 m25 =>
        bif y24.1 then (
          callT (lvl Try.prog HH (n + 0)).2 15 [.s (.one (.fr 1 y6.1.2.2.2.2.2.1)), .s (.one (.v (.int .i64 (((y4.2.1.length : Nat) : Int)))))] [] outs15 mouts15 fun y26 m27 =>
          bif y26.1 then (
            callT (lvl Try.prog HH (n + 0)).2 17 [.s (.one (.fr 3 y4.1))] [] outs17 mouts17 fun y28 m29 =>
            letIn (IntKind.wrap .i64 (Int.tdiv y4.2.2.1 2) : Int) fun n30 =>
            callT (lvl Try.prog HH (n + 0)).2 17 [.s (.one (.fr 3 y4.2.1))] [] outs17 mouts17 fun y31 m32 =>
            letIn (IntKind.wrap .i64 (Int.tdiv y4.2.2.1 2) : Int) fun n33 =>
            letIn (IntKind.wrap .i64 (y4.2.2.1 - n33) : Int) fun n34 =>
            callT (lvl Try.prog HH (n + 0)).2 20 [.s (.one (.fr 1 y6.1.2.2.2.2.1)), .s (.one (.fr 1 y6.1.2.2.2.2.2.1)), .s (.one (.fr 6 y28.1)), .s (.one (.v (.int .i64 n30))), .s (.one (.fr 6 y31.1)), .s (.one (.v (.int .i64 n34)))] [] outs20 mouts20 fun y35 m36 =>
            some (.s (.one (.v (.bool y35.1))), []))
          else
          some (.s (.one (.v (.bool false))), []))
        else
        some (.s (.one (.v (.bool false))), []))
      else
      some (.s (.one (.v (.bool false))), []))
    else
    callT (lvl Try.prog HH (n + 0)).2 12 [] [] outs12 mouts12 fun y37 m38 =>
    some (.s (.one (.v (.bool y37.1))), []) := by
  have h := fn5_w (fun x => x) (fun x => x) n l1 m2 rho3
  rw [lvlW_id] at h
  exact h

end Go.Proofs.Ytcldcnolhmmegaa.Am
