/- PRINTED by amprint.py: what the abstract machine answers, function by function. -/
import Derived.Test.YtfpdjpleplhcgaaH
import Derived.KernelRfl
set_option linter.unusedVariables false
set_option maxRecDepth 100000
namespace Go.Proofs.Ytfpdjpleplhcgaa.Am
open Go Go.Proofs

/-! armplan/armplanlaw10.awake -/
theorem fn36 (n : Nat)  : (lvl Try.prog HH (n + 1)).2 36 [] [] =
    callT (lvl Try.prog HH (n + 0)).2 98 [.s (.one (.fr 3 [[.v (.int .i64 0), .v (.int .i64 0), .v (.int .i64 0)], [.v (.int .i64 4), .v (.int .i64 0), .v (.int .i64 0)]]))] [] outs98 mouts98 fun y1 m2 =>
    callT (lvl Try.prog HH (n + 0)).2 38 [.s (.one (.fr 6 y1.1)), .s (.one (.fr 1 [[.v (.int .i64 1)], [.v (.int .i64 3)]]))] [] outs38 mouts38 fun y3 m4 =>
    bif y3.2.2.1 then (
      bif y3.2.1 == 4 then (
        callT (lvl Try.prog HH (n + 0)).2 87 [.s (.agg true [.v (.int .i64 12), .v (.int .i64 0), .v (.int .i64 0)])] [] outs87 mouts87 fun y5 m6 =>
        letIn (((y3.1.1 == y5.1.1) && ((y3.1.2.1 == y5.1.2.1) && true)) && (((y3.1.2.2.1 == y5.1.2.2.1) && ((y3.1.2.2.2.1 == y5.1.2.2.2.1) && true)) && (((y3.1.2.2.2.2.1 == y5.1.2.2.2.2.1) && ((y3.1.2.2.2.2.2.1 == y5.1.2.2.2.2.2.1) && true)) && true)) : Bool) fun b7 =>
        bif b7 then (
          callT (lvl Try.prog HH (n + 0)).2 98 [.s (.one (.fr 3 [[.v (.int .i64 1), .v (.int .i64 0), .v (.int .i64 0)]]))] [] outs98 mouts98 fun y8 m9 =>
          callT (lvl Try.prog HH (n + 0)).2 99 [.s (.one (.fr 6 y8.1))] [] outs99 mouts99 fun y10 m11 =>
          some (.s (.one (.v (.bool y10.1))), []))
        else
        some (.s (.one (.v (.bool false))), []))
      else
      some (.s (.one (.v (.bool false))), []))
    else
    some (.s (.one (.v (.bool false))), []) := by kernel_rfl

/-! armplan/armplanref10.reached -/
theorem fn164 (n : Nat) (v1 : Int) (v2 : Int) (v3 : Int) (v4 : Int) (v5 : Int) (v6 : Int) : (lvl Try.prog HH (n + 5)).2 164 [.s (.agg true [.v (.int .i64 v1), .v (.int .i64 v2), .v (.int .i64 v3), .v (.int .i64 v4), .v (.int .i64 v5), .v (.int .i64 v6)])] [] =
    Option.bind (
      bif decide (v1 < (-268435456)) then (
        some (.ret, encSt S164_0_r ((false, ()), ())))
      else
      bif decide (v1 > v2) then (
        some (.ret, encSt S164_0_r ((false, ()), ())))
      else
      bif decide (v2 > 268435456) then (
        some (.ret, encSt S164_0_r ((false, ()), ())))
      else
      bif decide (v3 < (-268435456)) then (
        some (.ret, encSt S164_0_r ((false, ()), ())))
      else
      bif decide (v3 > v4) then (
        some (.ret, encSt S164_0_r ((false, ()), ())))
      else
      bif decide (v4 > 268435456) then (
        some (.ret, encSt S164_0_r ((false, ()), ())))
      else
      bif decide (v5 < (-268435456)) then (
        some (.ret, encSt S164_0_r ((false, ()), ())))
      else
      bif decide (v5 > v6) then (
        some (.ret, encSt S164_0_r ((false, ()), ())))
      else
      bif decide (v6 > 268435456) then (
        some (.ret, encSt S164_0_r ((false, ()), ())))
      else
      some (.exit 0, encSt S164_0_e0 ((), ()))) fun p7 =>
    bif sameEx (.ret) p7.1 then (decSt S164_0_r p7.2 fun x8 =>
      some (.s (.one (.v (.bool x8.1.1))), []))
    else
    bif sameEx (.exit 0) p7.1 then (decSt S164_0_e0 p7.2 fun x9 =>
      some (.s (.one (.v (.bool true))), []))
    else
    none := by kernel_rfl

/-! armplan/armplanref10.Placed -/
theorem loop130_0 (n : Nat) (v2 : List (List D1)) (v3 : Int) : (lvl Try.prog HH (n + 1)).1 ⟨130, 0, true⟩ 0 (loopOf Try.f130 0) (encSt S130_0 ((v2, v3, ()), ())) =
    bif decide (v3 < (((v2.length : Nat) : Int))) then (
      bif decide (v3 ≤ 8) then (
        bif decide (0 ≤ v3) then (
          (nth v2 v3.toNat).bind fun cs4 =>
          bif Nat.beq ((cs4.drop 0).take 6).length 6 then (
            decCts [.int .i64, .int .i64, .int .i64, .int .i64, .int .i64, .int .i64] ((cs4.drop 0).take 6) fun c5 =>
            callT (lvl Try.prog HH (n + 0)).2 164 [.s (.agg true [.v (.int .i64 c5.1), .v (.int .i64 c5.2.1), .v (.int .i64 c5.2.2.1), .v (.int .i64 c5.2.2.2.1), .v (.int .i64 c5.2.2.2.2.1), .v (.int .i64 c5.2.2.2.2.2.1)])] [] outs164 mouts164 fun y6 m7 =>
            bif !y6.1 then (
              some (.ret, encSt S130_0_r ((false, ()), ())))
            else
            letIn (IntKind.wrap .i64 (v3 + 1) : Int) fun n8 =>
            (lvl Try.prog HH (n + 0)).1 ⟨130, 0, true⟩ 0 (loopOf Try.f130 0) (encSt S130_0 ((v2, n8, ()), ())))
          else
          none)
        else
        none)
      else
      some (.exit 0, encSt S130_0_e0 ((v2, ()), ())))
    else
    some (.exit 0, encSt S130_0_e0 ((v2, ()), ())) := by kernel_rfl

theorem fn130 (n : Nat) (l1 : List (List D1)) : (lvl Try.prog HH (n + 1)).2 130 [.s (.one (.fr 6 l1))] [] =
    ((lvl Try.prog HH (n + 0)).1 ⟨130, 0, true⟩ 0 (loopOf Try.f130 0) (encSt S130_0 ((l1, 0, ()), ()))).bind fun p9 =>
    bif sameEx (.ret) p9.1 then (decSt S130_0_r p9.2 fun x10 =>
      some (.s (.one (.v (.bool x10.1.1))), []))
    else
    bif sameEx (.exit 0) p9.1 then (decSt S130_0_e0 p9.2 fun x11 =>
      bif decide ((((x11.1.1.length : Nat) : Int)) ≥ 1) then (
        some (.s (.one (.v (.bool (decide ((((x11.1.1.length : Nat) : Int)) ≤ 8))))), []))
      else
      some (.s (.one (.v (.bool false))), []))
    else
    none := by kernel_rfl

/-! armplan/armplanref10.Combine -/
theorem loop100_0 (n : Nat) (v5 : List (List D1)) (v6 : List (List D1)) (v7 : Int) (v8 : Int) (c9 : Int) (c10 : Int) (c11 : Int) (c12 : Int) (c13 : Int) (c14 : Int) : (lvl Try.prog HH (n + 1)).1 ⟨100, 0, true⟩ 0 (loopOf Try.f100 0) (encSt S100_0 ((v5, v6, (), v7, v8, ()), ((c9, c10, c11, c12, c13, c14, ()), ()))) =
    bif decide (v8 < (((v6.length : Nat) : Int))) then (
      bif decide (0 ≤ v8) then (
        (nth v6 v8.toNat).bind fun cs15 =>
        (nth cs15 0).bind fun d16 =>
        (asInt? .i64 d16).bind fun n17 =>
        bif decide (n17 < 0) then (
          some (.ret, encSt S100_0_r (((), 0, false, ()), ((0, 0, 0, 0, 0, 0, ()), ()))))
        else
        bif decide (0 ≤ v8) then (
          (nth v6 v8.toNat).bind fun cs18 =>
          (nth cs18 0).bind fun d19 =>
          (asInt? .i64 d19).bind fun n20 =>
          letIn (IntKind.wrap .i64 (65536 - v7) : Int) fun n21 =>
          bif decide (n20 > n21) then (
            some (.ret, encSt S100_0_r (((), 0, false, ()), ((0, 0, 0, 0, 0, 0, ()), ()))))
          else
          bif decide (0 ≤ v8) then (
            (nth v6 v8.toNat).bind fun cs22 =>
            (nth cs22 0).bind fun d23 =>
            (asInt? .i64 d23).bind fun n24 =>
            letIn (IntKind.wrap .i64 (v7 + n24) : Int) fun n25 =>
            letIn (IntKind.wrap .i64 (v8 + 1) : Int) fun n26 =>
            (lvl Try.prog HH (n + 0)).1 ⟨100, 0, true⟩ 0 (loopOf Try.f100 0) (encSt S100_0 ((v5, v6, (), n25, n26, ()), ((c9, c10, c11, c12, c13, c14, ()), ()))))
          else
          none)
        else
        none)
      else
      none)
    else
    some (.exit 0, encSt S100_0_e0 ((v5, v6, (), v7, ()), ((c9, c10, c11, c12, c13, c14, ()), ()))) := by kernel_rfl

theorem loop100_2 (n : Nat) (v30 : List (List D1)) (v31 : List (List D1)) (v32 : Int) (v33 : Int) (c34 : Int) (c35 : Int) (c36 : Int) (c37 : Int) (c38 : Int) (c39 : Int) (c40 : Int) (c41 : Int) (c42 : Int) (c43 : Int) (c44 : Int) (c45 : Int) : (lvl Try.prog HH (n + 5)).1 ⟨100, 0, true⟩ 2 (loopOf Try.f100 2) (encSt S100_2 ((v30, v31, (), v32, (), v33, ()), ((c34, c35, c36, c37, c38, c39, ()), (c40, c41, c42, c43, c44, c45, ()), ()))) =
    bif decide (v33 < (((v30.length : Nat) : Int))) then (
      Option.bind (
        bif decide (0 ≤ v33) then (
          (nth v31 v33.toNat).bind fun cs46 =>
          (nth cs46 0).bind fun d47 =>
          (asInt? .i64 d47).bind fun n48 =>
          bif decide (0 ≤ v33) then (
            (nth v30 v33.toNat).bind fun cs49 =>
            (nth ((cs49.drop 0).drop 0) 0).bind fun d50 =>
            (asInt? .i64 d50).bind fun n51 =>
            letIn (IntKind.wrap .i64 (n48 * n51) : Int) fun n52 =>
            letIn (IntKind.wrap .i64 (c40 + n52) : Int) fun n53 =>
            bif decide (0 ≤ v33) then (
              (nth v31 v33.toNat).bind fun cs54 =>
              (nth cs54 0).bind fun d55 =>
              (asInt? .i64 d55).bind fun n56 =>
              bif decide (0 ≤ v33) then (
                (nth v30 v33.toNat).bind fun cs57 =>
                (nth ((cs57.drop 0).drop 1) 0).bind fun d58 =>
                (asInt? .i64 d58).bind fun n59 =>
                letIn (IntKind.wrap .i64 (n56 * n59) : Int) fun n60 =>
                letIn (IntKind.wrap .i64 (c41 + n60) : Int) fun n61 =>
                bif decide (0 ≤ v33) then (
                  (nth v31 v33.toNat).bind fun cs62 =>
                  (nth cs62 0).bind fun d63 =>
                  (asInt? .i64 d63).bind fun n64 =>
                  bif decide (0 ≤ v33) then (
                    (nth v30 v33.toNat).bind fun cs65 =>
                    (nth ((cs65.drop 2).drop 0) 0).bind fun d66 =>
                    (asInt? .i64 d66).bind fun n67 =>
                    letIn (IntKind.wrap .i64 (n64 * n67) : Int) fun n68 =>
                    letIn (IntKind.wrap .i64 (c42 + n68) : Int) fun n69 =>
                    bif decide (0 ≤ v33) then (
                      (nth v31 v33.toNat).bind fun cs70 =>
                      (nth cs70 0).bind fun d71 =>
                      (asInt? .i64 d71).bind fun n72 =>
                      bif decide (0 ≤ v33) then (
                        (nth v30 v33.toNat).bind fun cs73 =>
                        (nth ((cs73.drop 2).drop 1) 0).bind fun d74 =>
                        (asInt? .i64 d74).bind fun n75 =>
                        letIn (IntKind.wrap .i64 (n72 * n75) : Int) fun n76 =>
                        letIn (IntKind.wrap .i64 (c43 + n76) : Int) fun n77 =>
                        bif decide (0 ≤ v33) then (
                          (nth v31 v33.toNat).bind fun cs78 =>
                          (nth cs78 0).bind fun d79 =>
                          (asInt? .i64 d79).bind fun n80 =>
                          bif decide (0 ≤ v33) then (
                            (nth v30 v33.toNat).bind fun cs81 =>
                            (nth ((cs81.drop 4).drop 0) 0).bind fun d82 =>
                            (asInt? .i64 d82).bind fun n83 =>
                            letIn (IntKind.wrap .i64 (n80 * n83) : Int) fun n84 =>
                            letIn (IntKind.wrap .i64 (c44 + n84) : Int) fun n85 =>
                            bif decide (0 ≤ v33) then (
                              (nth v31 v33.toNat).bind fun cs86 =>
                              (nth cs86 0).bind fun d87 =>
                              (asInt? .i64 d87).bind fun n88 =>
                              bif decide (0 ≤ v33) then (
                                (nth v30 v33.toNat).bind fun cs89 =>
                                (nth ((cs89.drop 4).drop 1) 0).bind fun d90 =>
                                (asInt? .i64 d90).bind fun n91 =>
                                letIn (IntKind.wrap .i64 (n88 * n91) : Int) fun n92 =>
                                letIn (IntKind.wrap .i64 (c45 + n92) : Int) fun n93 =>
                                some (.exit 4, encSt S100_4_e4 ((v30, v31, (), v32, (), v33, ()), ((c34, c35, c36, c37, c38, c39, ()), (n53, n61, n69, n77, n85, n93, ()), ()))))
                              else
                              none)
                            else
                            none)
                          else
                          none)
                        else
                        none)
                      else
                      none)
                    else
                    none)
                  else
                  none)
                else
                none)
              else
              none)
            else
            none)
          else
          none)
        else
        none) fun p94 =>
      bif sameEx (.exit 4) p94.1 then (decSt S100_4_e4 p94.2 fun x95 =>
        letIn (IntKind.wrap .i64 (x95.1.2.2.2.2.2.1 + 1) : Int) fun n96 =>
        (lvl Try.prog HH (n + 4)).1 ⟨100, 0, true⟩ 2 (loopOf Try.f100 2) (encSt S100_2 ((x95.1.1, x95.1.2.1, (), x95.1.2.2.2.1, (), n96, ()), ((x95.2.1.1, x95.2.1.2.1, x95.2.1.2.2.1, x95.2.1.2.2.2.1, x95.2.1.2.2.2.2.1, x95.2.1.2.2.2.2.2.1, ()), (x95.2.2.1.1, x95.2.2.1.2.1, x95.2.2.1.2.2.1, x95.2.2.1.2.2.2.1, x95.2.2.1.2.2.2.2.1, x95.2.2.1.2.2.2.2.2.1, ()), ()))))
      else
      none)
    else
    some (.exit 2, encSt S100_2_e2 (((), v32, (), ()), ((c34, c35, c36, c37, c38, c39, ()), (c40, c41, c42, c43, c44, c45, ()), ()))) := by kernel_rfl

theorem fn100 (n : Nat) (l1 : List (List D1)) (weights2 : List (List D1)) : (lvl Try.prog HH (n + 1)).2 100 [.s (.one (.fr 6 l1)), .s (.one (.fr 1 weights2))] [] =
    callT (lvl Try.prog HH (n + 0)).2 130 [.s (.one (.fr 6 l1))] [] outs130 mouts130 fun y3 m4 =>
    bif !y3.1 then (
      some (.tup [.agg true [.v (.int .i64 0), .v (.int .i64 0), .v (.int .i64 0), .v (.int .i64 0), .v (.int .i64 0), .v (.int .i64 0)], .one (.v (.int .i64 0)), .one (.v (.bool false))], []))
    else
    bif (((weights2.length : Nat) : Int)) != (((l1.length : Nat) : Int)) then (
      some (.tup [.agg true [.v (.int .i64 0), .v (.int .i64 0), .v (.int .i64 0), .v (.int .i64 0), .v (.int .i64 0), .v (.int .i64 0)], .one (.v (.int .i64 0)), .one (.v (.bool false))], []))
    else
    ((lvl Try.prog HH (n + 0)).1 ⟨100, 0, true⟩ 0 (loopOf Try.f100 0) (encSt S100_0 ((l1, weights2, (), 0, 0, ()), ((0, 0, 0, 0, 0, 0, ()), ())))).bind fun p27 =>
    bif sameEx (.ret) p27.1 then (decSt S100_0_r p27.2 fun x28 =>
      some (.tup [.agg true [.v (.int .i64 x28.2.1.1), .v (.int .i64 x28.2.1.2.1), .v (.int .i64 x28.2.1.2.2.1), .v (.int .i64 x28.2.1.2.2.2.1), .v (.int .i64 x28.2.1.2.2.2.2.1), .v (.int .i64 x28.2.1.2.2.2.2.2.1)], .one (.v (.int .i64 x28.1.2.1)), .one (.v (.bool x28.1.2.2.1))], []))
    else
    bif sameEx (.exit 0) p27.1 then (decSt S100_0_e0 p27.2 fun x29 =>
      bif decide (x29.1.2.2.2.1 < 1) then (
        some (.tup [.agg true [.v (.int .i64 0), .v (.int .i64 0), .v (.int .i64 0), .v (.int .i64 0), .v (.int .i64 0), .v (.int .i64 0)], .one (.v (.int .i64 0)), .one (.v (.bool false))], []))
      else
      ((lvl Try.prog HH (n + 0)).1 ⟨100, 0, true⟩ 2 (loopOf Try.f100 2) (encSt S100_2 ((x29.1.1, x29.1.2.1, (), x29.1.2.2.2.1, (), 0, ()), ((x29.2.1.1, x29.2.1.2.1, x29.2.1.2.2.1, x29.2.1.2.2.2.1, x29.2.1.2.2.2.2.1, x29.2.1.2.2.2.2.2.1, ()), (0, 0, 0, 0, 0, 0, ()), ())))).bind fun p97 =>
      bif sameEx (.exit 2) p97.1 then (decSt S100_2_e2 p97.2 fun x98 =>
        some (.tup [.agg true [.v (.int .i64 x98.2.2.1.1), .v (.int .i64 x98.2.2.1.2.1), .v (.int .i64 x98.2.2.1.2.2.1), .v (.int .i64 x98.2.2.1.2.2.2.1), .v (.int .i64 x98.2.2.1.2.2.2.2.1), .v (.int .i64 x98.2.2.1.2.2.2.2.2.1)], .one (.v (.int .i64 x98.1.2.1)), .one (.v (.bool true))], []))
      else
      none)
    else
    none := by kernel_rfl

end Go.Proofs.Ytfpdjpleplhcgaa.Am
