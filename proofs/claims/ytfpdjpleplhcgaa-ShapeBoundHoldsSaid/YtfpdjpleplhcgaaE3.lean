/- PRINTED by amprint.py: what the abstract machine answers, function by function. -/
import Derived.Test.YtfpdjpleplhcgaaH
import Derived.KernelRfl
set_option linter.unusedVariables false
set_option maxRecDepth 100000
namespace Go.Proofs.Ytfpdjpleplhcgaa.Am
open Go Go.Proofs

/-! armplan/armplanlaw10.ShapeBoundHolds -/
theorem loop6_0 (n : Nat) (v12 : List (List D1)) (v13 : Int) (v14 : Int) (c15 : Int) (c16 : Int) (c17 : Int) (c18 : Int) (c19 : Int) (c20 : Int) : (lvl Try.prog HH (n + 1)).1 ⟨6, 0, true⟩ 0 (loopOf Try.f6 0) (encSt S6_0 ((v12, v13, (), v14, ()), ((c15, c16, c17, c18, c19, c20, ()), ()))) =
    bif decide (v14 < 3) then (
      ((lvl Try.prog HH (n + 0)).1 ⟨6, 0, true⟩ 2 (loopOf Try.f6 2) (encSt S6_2 ((v12, v13, (), v14, false, false, 0, ()), ((c15, c16, c17, c18, c19, c20, ()), ())))).bind fun p67 =>
      bif sameEx (.ret) p67.1 then (decSt S6_2_r p67.2 fun x68 =>
        some (.ret, encSt S6_0_r ((x68.1.1, ()), ())))
      else
      bif sameEx (.exit 2) p67.1 then (decSt S6_2_e2 p67.2 fun x69 =>
        bif !x69.1.2.2.2.2.1 then (
          some (.ret, encSt S6_0_r ((false, ()), ())))
        else
        bif !x69.1.2.2.2.2.2.1 then (
          some (.ret, encSt S6_0_r ((false, ()), ())))
        else
        letIn (IntKind.wrap .i64 (x69.1.2.2.2.1 + 1) : Int) fun n70 =>
        (lvl Try.prog HH (n + 0)).1 ⟨6, 0, true⟩ 0 (loopOf Try.f6 0) (encSt S6_0 ((x69.1.1, x69.1.2.1, (), n70, ()), ((x69.2.1.1, x69.2.1.2.1, x69.2.1.2.2.1, x69.2.1.2.2.2.1, x69.2.1.2.2.2.2.1, x69.2.1.2.2.2.2.2.1, ()), ()))))
      else
      none)
    else
    some (.exit 0, encSt S6_0_e0 ((), ())) := by kernel_rfl

theorem loop6_2 (n : Nat) (v21 : List (List D1)) (v22 : Int) (v23 : Int) (v24 : Bool) (v25 : Bool) (v26 : Int) (c27 : Int) (c28 : Int) (c29 : Int) (c30 : Int) (c31 : Int) (c32 : Int) : (lvl Try.prog HH (n + 1)).1 ⟨6, 0, true⟩ 2 (loopOf Try.f6 2) (encSt S6_2 ((v21, v22, (), v23, v24, v25, v26, ()), ((c27, c28, c29, c30, c31, c32, ()), ()))) =
    bif decide (v26 < (((v21.length : Nat) : Int))) then (
      bif (decide (0 ≤ v23)) && (decide (v23 < 3)) then (
        (nth ([.v (.int .i64 c27), .v (.int .i64 c28), .v (.int .i64 c29), .v (.int .i64 c30), .v (.int .i64 c31), .v (.int .i64 c32)] : List D1) (0 + (v23.toNat * 2))).bind fun d33 =>
        (asInt? .i64 d33).bind fun n34 =>
        bif decide (0 ≤ v26) then (
          (nth v21 v26.toNat).bind fun cs35 =>
          bif (decide (0 ≤ v23)) && (decide (v23 < 3)) then (
            (nth ((cs35.drop (v23.toNat * 2)).drop 0) 0).bind fun d36 =>
            (asInt? .i64 d36).bind fun n37 =>
            letIn (IntKind.wrap .i64 (n37 - v22) : Int) fun n38 =>
            bif decide (n34 > n38) then (
              some (.ret, encSt S6_2_r ((false, ()), ())))
            else
            bif (decide (0 ≤ v23)) && (decide (v23 < 3)) then (
              (nth ([.v (.int .i64 c27), .v (.int .i64 c28), .v (.int .i64 c29), .v (.int .i64 c30), .v (.int .i64 c31), .v (.int .i64 c32)] : List D1) ((0 + (v23.toNat * 2)) + 1)).bind fun d39 =>
              (asInt? .i64 d39).bind fun n40 =>
              bif decide (0 ≤ v26) then (
                (nth v21 v26.toNat).bind fun cs41 =>
                bif (decide (0 ≤ v23)) && (decide (v23 < 3)) then (
                  (nth ((cs41.drop (v23.toNat * 2)).drop 1) 0).bind fun d42 =>
                  (asInt? .i64 d42).bind fun n43 =>
                  letIn (IntKind.wrap .i64 (n43 + v22) : Int) fun n44 =>
                  bif decide (n40 < n44) then (
                    some (.ret, encSt S6_2_r ((false, ()), ())))
                  else
                  bif v24 then (
                    bif v25 then (
                      letIn (IntKind.wrap .i64 (v26 + 1) : Int) fun n45 =>
                      (lvl Try.prog HH (n + 0)).1 ⟨6, 0, true⟩ 2 (loopOf Try.f6 2) (encSt S6_2 ((v21, v22, (), v23, true, true, n45, ()), ((c27, c28, c29, c30, c31, c32, ()), ()))))
                    else
                    bif (decide (0 ≤ v23)) && (decide (v23 < 3)) then (
                      (nth ([.v (.int .i64 c27), .v (.int .i64 c28), .v (.int .i64 c29), .v (.int .i64 c30), .v (.int .i64 c31), .v (.int .i64 c32)] : List D1) ((0 + (v23.toNat * 2)) + 1)).bind fun d46 =>
                      (asInt? .i64 d46).bind fun n47 =>
                      bif decide (0 ≤ v26) then (
                        (nth v21 v26.toNat).bind fun cs48 =>
                        bif (decide (0 ≤ v23)) && (decide (v23 < 3)) then (
                          (nth ((cs48.drop (v23.toNat * 2)).drop 1) 0).bind fun d49 =>
                          (asInt? .i64 d49).bind fun n50 =>
                          letIn (IntKind.wrap .i64 (n50 + v22) : Int) fun n51 =>
                          letIn (IntKind.wrap .i64 (v26 + 1) : Int) fun n52 =>
                          (lvl Try.prog HH (n + 0)).1 ⟨6, 0, true⟩ 2 (loopOf Try.f6 2) (encSt S6_2 ((v21, v22, (), v23, true, (n47 == n51), n52, ()), ((c27, c28, c29, c30, c31, c32, ()), ()))))
                        else
                        none)
                      else
                      none)
                    else
                    none)
                  else
                  bif (decide (0 ≤ v23)) && (decide (v23 < 3)) then (
                    (nth ([.v (.int .i64 c27), .v (.int .i64 c28), .v (.int .i64 c29), .v (.int .i64 c30), .v (.int .i64 c31), .v (.int .i64 c32)] : List D1) (0 + (v23.toNat * 2))).bind fun d53 =>
                    (asInt? .i64 d53).bind fun n54 =>
                    bif decide (0 ≤ v26) then (
                      (nth v21 v26.toNat).bind fun cs55 =>
                      bif (decide (0 ≤ v23)) && (decide (v23 < 3)) then (
                        (nth ((cs55.drop (v23.toNat * 2)).drop 0) 0).bind fun d56 =>
                        (asInt? .i64 d56).bind fun n57 =>
                        letIn (IntKind.wrap .i64 (n57 - v22) : Int) fun n58 =>
                        bif v25 then (
                          letIn (IntKind.wrap .i64 (v26 + 1) : Int) fun n59 =>
                          (lvl Try.prog HH (n + 0)).1 ⟨6, 0, true⟩ 2 (loopOf Try.f6 2) (encSt S6_2 ((v21, v22, (), v23, (n54 == n58), true, n59, ()), ((c27, c28, c29, c30, c31, c32, ()), ()))))
                        else
                        bif (decide (0 ≤ v23)) && (decide (v23 < 3)) then (
                          (nth ([.v (.int .i64 c27), .v (.int .i64 c28), .v (.int .i64 c29), .v (.int .i64 c30), .v (.int .i64 c31), .v (.int .i64 c32)] : List D1) ((0 + (v23.toNat * 2)) + 1)).bind fun d60 =>
                          (asInt? .i64 d60).bind fun n61 =>
                          bif decide (0 ≤ v26) then (
                            (nth v21 v26.toNat).bind fun cs62 =>
                            bif (decide (0 ≤ v23)) && (decide (v23 < 3)) then (
                              (nth ((cs62.drop (v23.toNat * 2)).drop 1) 0).bind fun d63 =>
                              (asInt? .i64 d63).bind fun n64 =>
                              letIn (IntKind.wrap .i64 (n64 + v22) : Int) fun n65 =>
                              letIn (IntKind.wrap .i64 (v26 + 1) : Int) fun n66 =>
                              (lvl Try.prog HH (n + 0)).1 ⟨6, 0, true⟩ 2 (loopOf Try.f6 2) (encSt S6_2 ((v21, v22, (), v23, (n54 == n58), (n61 == n65), n66, ()), ((c27, c28, c29, c30, c31, c32, ()), ()))))
                            else
                            none)
                          else
                          none)
                        else
                        none)
                      else
                      none)
                    else
                    none)
                  else
                  none)
                else
                none)
              else
              none)
            else
            none)
          else
          none)
        else
        none)
      else
      none)
    else
    some (.exit 2, encSt S6_2_e2 ((v21, v22, (), v23, v24, v25, ()), ((c27, c28, c29, c30, c31, c32, ()), ()))) := by kernel_rfl

theorem fn6 (n : Nat) (l1 : List (List D1)) (width2 : Int) (radius3 : Int) : (lvl Try.prog HH (n + 1)).2 6 [.s (.one (.fr 1 l1)), .s (.one (.v (.int .i64 width2))), .s (.one (.v (.int .i64 radius3)))] [] =
    callT (lvl Try.prog HH (n + 0)).2 41 [.s (.one (.v (.int .i64 width2))), .s (.one (.v (.int .i64 5000)))] [] outs41 mouts41 fun y4 m5 =>
    callT (lvl Try.prog HH (n + 0)).2 34 [.s (.one (.fr 1 l1)), .s (.one (.v (.int .i64 y4.1)))] [] outs34 mouts34 fun y6 m7 =>
    callT (lvl Try.prog HH (n + 0)).2 41 [.s (.one (.v (.int .i64 radius3))), .s (.one (.v (.int .i64 1048576)))] [] outs41 mouts41 fun y8 m9 =>
    callT (lvl Try.prog HH (n + 0)).2 42 [.s (.one (.fr 6 y6.1)), .s (.one (.v (.int .i64 y8.1)))] [] outs42 mouts42 fun y10 m11 =>
    ((lvl Try.prog HH (n + 0)).1 ⟨6, 0, true⟩ 0 (loopOf Try.f6 0) (encSt S6_0 ((y6.1, y8.1, (), 0, ()), ((y10.1.1, y10.1.2.1, y10.1.2.2.1, y10.1.2.2.2.1, y10.1.2.2.2.2.1, y10.1.2.2.2.2.2.1, ()), ())))).bind fun p71 =>
    bif sameEx (.ret) p71.1 then (decSt S6_0_r p71.2 fun x72 =>
      some (.s (.one (.v (.bool x72.1.1))), []))
    else
    bif sameEx (.exit 0) p71.1 then (decSt S6_0_e0 p71.2 fun x73 =>
      callT (lvl Try.prog HH (n + 0)).2 36 [] [] outs36 mouts36 fun y74 m75 =>
      some (.s (.one (.v (.bool y74.1))), []))
    else
    none := by kernel_rfl

end Go.Proofs.Ytfpdjpleplhcgaa.Am
