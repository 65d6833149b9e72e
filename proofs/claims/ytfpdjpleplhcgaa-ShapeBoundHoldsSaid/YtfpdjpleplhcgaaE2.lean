/- PRINTED by amprint.py: what the abstract machine answers, function by function. -/
import Derived.Test.YtfpdjpleplhcgaaH
import Derived.KernelRfl
set_option linter.unusedVariables false
set_option maxRecDepth 100000
namespace Go.Proofs.Ytfpdjpleplhcgaa.Am
open Go Go.Proofs

/-! armplan/armplanmake.Boxed -/
theorem loop98_0 (n : Nat) (v2 : List (List D1)) (v3 : Int) (es4 : List (List D1)) : (lvl Try.prog HH (n + 1)).1 ⟨98, 0, true⟩ 0 (loopOf Try.f98 0) (encSt S98_0 ((v2, (), v3, ()), (es4, ()))) =
    bif decide (v3 < (((v2.length : Nat) : Int))) then (
      bif decide (0 ≤ v3) then (
        (nth v2 v3.toNat).bind fun cs5 =>
        bif Nat.beq ((cs5.drop 0).take 3).length 3 then (
          decCts [.int .i64, .int .i64, .int .i64] ((cs5.drop 0).take 3) fun c6 =>
          callT (lvl Try.prog HH (n + 0)).2 87 [.s (.agg true [.v (.int .i64 c6.1), .v (.int .i64 c6.2.1), .v (.int .i64 c6.2.2.1)])] [] outs87 mouts87 fun y7 m8 =>
          bif decide ((es4.length + 1) * 48 ≤ 140737488355328) then (
            letIn (IntKind.wrap .i64 (v3 + 1) : Int) fun n9 =>
            (lvl Try.prog HH (n + 0)).1 ⟨98, 0, true⟩ 0 (loopOf Try.f98 0) (encSt S98_0 ((v2, (), n9, ()), ((es4 ++ ([[.v (.int .i64 y7.1.1), .v (.int .i64 y7.1.2.1), .v (.int .i64 y7.1.2.2.1), .v (.int .i64 y7.1.2.2.2.1), .v (.int .i64 y7.1.2.2.2.2.1), .v (.int .i64 y7.1.2.2.2.2.2.1)]] : List (List D1))), ()))))
          else
          none)
        else
        none)
      else
      none)
    else
    some (.exit 0, encSt S98_0_e0 (((), ()), (es4, ()))) := by kernel_rfl

theorem fn98 (n : Nat) (l1 : List (List D1)) : (lvl Try.prog HH (n + 1)).2 98 [.s (.one (.fr 3 l1))] [] =
    ((lvl Try.prog HH (n + 0)).1 ⟨98, 0, true⟩ 0 (loopOf Try.f98 0) (encSt S98_0 ((l1, (), 0, ()), ([], ())))).bind fun p10 =>
    bif sameEx (.exit 0) p10.1 then (decSt S98_0_e0 p10.2 fun x11 =>
      some (.s (.one (.fr 6 x11.2.1)), []))
    else
    none := by kernel_rfl

/-! armplan/shape.Combine -/
theorem loop38_0 (n : Nat) (v5 : List (List D1)) (v6 : Int) (v7 : List (List D1)) (v8 : Int) (v9 : Int) (c10 : Int) (c11 : Int) (c12 : Int) (c13 : Int) (c14 : Int) (c15 : Int) (c16 : Int) (c17 : Int) (c18 : Int) (c19 : Int) (c20 : Int) (c21 : Int) : (lvl Try.prog HH (n + 5)).1 ⟨38, 0, true⟩ 0 (loopOf Try.f38 0) (encSt S38_0 ((v5, (), (), v6, v7, v8, v9, ()), ((c10, c11, c12, c13, c14, c15, ()), (c16, c17, c18, c19, c20, c21, ()), ()))) =
    bif decide (v9 < v8) then (
      bif decide (0 ≤ v9) then (
        (nth v7 v9.toNat).bind fun cs22 =>
        (nth cs22 0).bind fun d23 =>
        (asInt? .i64 d23).bind fun n24 =>
        bif decide (n24 < 0) then (
          some (.ret, encSt S38_0_r (((), 0, false, ()), ((0, 0, 0, 0, 0, 0, ()), ()))))
        else
        bif decide (n24 > 65536) then (
          some (.ret, encSt S38_0_r (((), 0, false, ()), ((0, 0, 0, 0, 0, 0, ()), ()))))
        else
        letIn (IntKind.wrap .i64 (v6 + n24) : Int) fun n25 =>
        Option.bind (
          bif decide (0 ≤ v9) then (
            (nth v5 v9.toNat).bind fun cs26 =>
            (nth ((cs26.drop 0).drop 0) 0).bind fun d27 =>
            (asInt? .i64 d27).bind fun n28 =>
            letIn (IntKind.wrap .i64 (n24 * n28) : Int) fun n29 =>
            letIn (IntKind.wrap .i64 (c16 + n29) : Int) fun n30 =>
            bif decide (0 ≤ v9) then (
              (nth v5 v9.toNat).bind fun cs31 =>
              (nth ((cs31.drop 0).drop 1) 0).bind fun d32 =>
              (asInt? .i64 d32).bind fun n33 =>
              letIn (IntKind.wrap .i64 (n24 * n33) : Int) fun n34 =>
              letIn (IntKind.wrap .i64 (c17 + n34) : Int) fun n35 =>
              bif decide (0 ≤ v9) then (
                (nth v5 v9.toNat).bind fun cs36 =>
                (nth ((cs36.drop 2).drop 0) 0).bind fun d37 =>
                (asInt? .i64 d37).bind fun n38 =>
                letIn (IntKind.wrap .i64 (n24 * n38) : Int) fun n39 =>
                letIn (IntKind.wrap .i64 (c18 + n39) : Int) fun n40 =>
                bif decide (0 ≤ v9) then (
                  (nth v5 v9.toNat).bind fun cs41 =>
                  (nth ((cs41.drop 2).drop 1) 0).bind fun d42 =>
                  (asInt? .i64 d42).bind fun n43 =>
                  letIn (IntKind.wrap .i64 (n24 * n43) : Int) fun n44 =>
                  letIn (IntKind.wrap .i64 (c19 + n44) : Int) fun n45 =>
                  bif decide (0 ≤ v9) then (
                    (nth v5 v9.toNat).bind fun cs46 =>
                    (nth ((cs46.drop 4).drop 0) 0).bind fun d47 =>
                    (asInt? .i64 d47).bind fun n48 =>
                    letIn (IntKind.wrap .i64 (n24 * n48) : Int) fun n49 =>
                    letIn (IntKind.wrap .i64 (c20 + n49) : Int) fun n50 =>
                    bif decide (0 ≤ v9) then (
                      (nth v5 v9.toNat).bind fun cs51 =>
                      (nth ((cs51.drop 4).drop 1) 0).bind fun d52 =>
                      (asInt? .i64 d52).bind fun n53 =>
                      letIn (IntKind.wrap .i64 (n24 * n53) : Int) fun n54 =>
                      letIn (IntKind.wrap .i64 (c21 + n54) : Int) fun n55 =>
                      some (.exit 2, encSt S38_2_e2 ((v5, (), (), n25, v7, v8, v9, ()), ((c10, c11, c12, c13, c14, c15, ()), (n30, n35, n40, n45, n50, n55, ()), ()))))
                    else
                    none)
                  else
                  none)
                else
                none)
              else
              none)
            else
            none)
          else
          none) fun p56 =>
        bif sameEx (.exit 2) p56.1 then (decSt S38_2_e2 p56.2 fun x57 =>
          letIn (IntKind.wrap .i64 (x57.1.2.2.2.2.2.2.1 + 1) : Int) fun n58 =>
          (lvl Try.prog HH (n + 4)).1 ⟨38, 0, true⟩ 0 (loopOf Try.f38 0) (encSt S38_0 ((x57.1.1, (), (), x57.1.2.2.2.1, x57.1.2.2.2.2.1, x57.1.2.2.2.2.2.1, n58, ()), ((x57.2.1.1, x57.2.1.2.1, x57.2.1.2.2.1, x57.2.1.2.2.2.1, x57.2.1.2.2.2.2.1, x57.2.1.2.2.2.2.2.1, ()), (x57.2.2.1.1, x57.2.2.1.2.1, x57.2.2.1.2.2.1, x57.2.2.1.2.2.2.1, x57.2.2.1.2.2.2.2.1, x57.2.2.1.2.2.2.2.2.1, ()), ()))))
        else
        none)
      else
      none)
    else
    some (.exit 0, encSt S38_0_e0 (((), (), v6, ()), ((c10, c11, c12, c13, c14, c15, ()), (c16, c17, c18, c19, c20, c21, ()), ()))) := by kernel_rfl

theorem fn38 (n : Nat) (l1 : List (List D1)) (weights2 : List (List D1)) : (lvl Try.prog HH (n + 1)).2 38 [.s (.one (.fr 6 l1)), .s (.one (.fr 1 weights2))] [] =
    callT (lvl Try.prog HH (n + 0)).2 99 [.s (.one (.fr 6 l1))] [] outs99 mouts99 fun y3 m4 =>
    bif !y3.1 then (
      some (.tup [.agg true [.v (.int .i64 0), .v (.int .i64 0), .v (.int .i64 0), .v (.int .i64 0), .v (.int .i64 0), .v (.int .i64 0)], .one (.v (.int .i64 0)), .one (.v (.bool false))], []))
    else
    bif (((weights2.length : Nat) : Int)) != (((l1.length : Nat) : Int)) then (
      some (.tup [.agg true [.v (.int .i64 0), .v (.int .i64 0), .v (.int .i64 0), .v (.int .i64 0), .v (.int .i64 0), .v (.int .i64 0)], .one (.v (.int .i64 0)), .one (.v (.bool false))], []))
    else
    ((lvl Try.prog HH (n + 0)).1 ⟨38, 0, true⟩ 0 (loopOf Try.f38 0) (encSt S38_0 ((l1, (), (), 0, weights2, (((weights2.length : Nat) : Int)), 0, ()), ((0, 0, 0, 0, 0, 0, ()), (0, 0, 0, 0, 0, 0, ()), ())))).bind fun p59 =>
    bif sameEx (.ret) p59.1 then (decSt S38_0_r p59.2 fun x60 =>
      some (.tup [.agg true [.v (.int .i64 x60.2.1.1), .v (.int .i64 x60.2.1.2.1), .v (.int .i64 x60.2.1.2.2.1), .v (.int .i64 x60.2.1.2.2.2.1), .v (.int .i64 x60.2.1.2.2.2.2.1), .v (.int .i64 x60.2.1.2.2.2.2.2.1)], .one (.v (.int .i64 x60.1.2.1)), .one (.v (.bool x60.1.2.2.1))], []))
    else
    bif sameEx (.exit 0) p59.1 then (decSt S38_0_e0 p59.2 fun x61 =>
      bif decide (x61.1.2.2.1 < 1) then (
        some (.tup [.agg true [.v (.int .i64 0), .v (.int .i64 0), .v (.int .i64 0), .v (.int .i64 0), .v (.int .i64 0), .v (.int .i64 0)], .one (.v (.int .i64 0)), .one (.v (.bool false))], []))
      else
      bif decide (x61.1.2.2.1 > 65536) then (
        some (.tup [.agg true [.v (.int .i64 0), .v (.int .i64 0), .v (.int .i64 0), .v (.int .i64 0), .v (.int .i64 0), .v (.int .i64 0)], .one (.v (.int .i64 0)), .one (.v (.bool false))], []))
      else
      some (.tup [.agg true [.v (.int .i64 x61.2.2.1.1), .v (.int .i64 x61.2.2.1.2.1), .v (.int .i64 x61.2.2.1.2.2.1), .v (.int .i64 x61.2.2.1.2.2.2.1), .v (.int .i64 x61.2.2.1.2.2.2.2.1), .v (.int .i64 x61.2.2.1.2.2.2.2.2.1)], .one (.v (.int .i64 x61.1.2.2.1)), .one (.v (.bool true))], []))
    else
    none := by kernel_rfl

/-! armplan/armplanlaw10.awake -/
theorem fn36 (n : Nat)  : (lvl Try.prog HH (n + 1)).2 36 [] [] =
    callT (lvl Try.prog HH (n + 0)).2 98 [.s (.one (.fr 3 [[.v (.int .i64 0), .v (.int .i64 0), .v (.int .i64 0)], [.v (.int .i64 4), .v (.int .i64 0), .v (.int .i64 0)]]))] [] outs98 mouts98 fun y1 m2 =>
    callT (lvl Try.prog HH (n + 0)).2 38 [.s (.one (.fr 6 y1.1)), .s (.one (.fr 1 [[.v (.int .i64 1)], [.v (.int .i64 3)]]))] [] outs38 mouts38 fun y3 m4 =>
    bif y3.2.2.1 then (
      bif y3.2.1 == 4 then (
        callT (lvl Try.prog HH (n + 0)).2 87 [.s (.agg true [.v (.int .i64 12), .v (.int .i64 0), .v (.int .i64 0)])] [] outs87 mouts87 fun y5 m6 =>
        letIn (((y3.1.1 == y5.1.1) && ((y3.1.2.1 == y5.1.2.1) && true)) && (((y3.1.2.2.1 == y5.1.2.2.1) && ((y3.1.2.2.2.1 == y5.1.2.2.2.1) && true)) && (((y3.1.2.2.2.2.1 == y5.1.2.2.2.2.1) && ((y3.1.2.2.2.2.2.1 == y5.1.2.2.2.2.2.1) && true)) && true)) : Bool) fun b7 =>
        bif b7 then (
          callT (lvl Try.prog HH (n + 0)).2 98 [.s (.one (.fr 3 [[.v (.int .i64 1), .v (.int .i64 0), .v (.int .i64 0)]]))] [] outs98 mouts98 fun y8 m9 =>
          callT (lvl Try.prog HH (n + 0)).2 99 [.s (.one (.fr 6 y8.1))] [] outs99 mouts99 fun y10 m11 =>
          some (.s (.one (.v (.bool y10.1))), []))
        else
        some (.s (.one (.v (.bool false))), []))
      else
      some (.s (.one (.v (.bool false))), []))
    else
    some (.s (.one (.v (.bool false))), []) := by kernel_rfl

end Go.Proofs.Ytfpdjpleplhcgaa.Am
