/- PRINTED by amprint.py: what the abstract machine answers, function by function. -/
import Derived.Test.YtfpdjpleplhcgaaH
import Derived.KernelRfl
set_option linter.unusedVariables false
set_option maxRecDepth 100000
namespace Go.Proofs.Ytfpdjpleplhcgaa.Am
open Go Go.Proofs

/-! armplan/armplanlaw16.radius -/
theorem fn59 (n : Nat) (r1 : Int) : (lvl Try.prog HH (n + 1)).2 59 [.s (.one (.v (.int .i64 r1)))] [] =
    letIn (Int.fdiv r1 4 : Int) fun n2 =>
    letIn (IntKind.wrap .i64 ((BitVec.ofInt 64 r1 &&& BitVec.ofInt 64 3).toNat : Nat) : Int) fun n3 =>
    bif (decide (0 ≤ n3)) && (decide (n3 < 4)) then (
      (nth ([.v (.int .i64 1), .v (.int .i64 30000), .v (.int .i64 200000), .v (.int .i64 1048577)] : List D1) (n3.toNat * 1)).bind fun d4 =>
      (asInt? .i64 d4).bind fun n5 =>
      callT (lvl Try.prog HH (n + 0)).2 41 [.s (.one (.v (.int .i64 n2))), .s (.one (.v (.int .i64 n5)))] [] outs41 mouts41 fun y6 m7 =>
      some (.s (.one (.v (.int .i64 y6.1))), []))
    else
    none := by kernel_rfl

/-! armplan/armplanlaw16.OverlapCommon -/
theorem fn15 (n : Nat) (l1 : List (List D1)) (m2 : List (List D1)) (at3 : Int) (weight4 : Int) (p5 : Int) (q6 : Int) : (lvl Try.prog HH (n + 1)).2 15 [.s (.one (.fr 1 l1)), .s (.one (.fr 1 m2)), .s (.one (.v (.int .i64 at3))), .s (.one (.v (.int .i64 weight4))), .s (.one (.v (.int .i64 p5))), .s (.one (.v (.int .i64 q6)))] [] =
    callT (lvl Try.prog HH (n + 0)).2 34 [.s (.one (.fr 1 l1)), .s (.one (.v (.int .i64 0)))] [] outs34 mouts34 fun y7 m8 =>
    callT (lvl Try.prog HH (n + 0)).2 41 [.s (.one (.v (.int .i64 at3))), .s (.one (.v (.int .i64 (((m8.1.length : Nat) : Int)))))] [] outs41 mouts41 fun y9 m10 =>
    callT (lvl Try.prog HH (n + 0)).2 34 [.s (.one (.fr 1 m2)), .s (.one (.v (.int .i64 0)))] [] outs34 mouts34 fun y11 m12 =>
    bif decide (0 ≤ y9.1) then (
      (nth m8.1 y9.1.toNat).bind fun cs13 =>
      (nth m8.1 y9.1.toNat).bind fun cs14 =>
      bif Nat.beq ((cs14.drop 0).take 6).length 6 then (
        decCts [.int .i64, .int .i64, .int .i64, .int .i64, .int .i64, .int .i64] ((cs14.drop 0).take 6) fun c15 =>
        bif decide ((m12.1.length + 1) * 48 ≤ 140737488355328) then (
          bif (decide (0 ≤ (((m8.1.length : Nat) : Int)))) && (decide ((((m8.1.length : Nat) : Int)) ≤ (((m8.1.length : Nat) : Int)))) && (decide ((((m8.1.length : Nat) : Int)) ≤ (((m8.1.length : Nat) : Int)))) && decide ((((m8.1.length : Nat) : Int)).toNat * 8 ≤ 140737488355328) then (
            bif (decide (0 ≤ ((((m12.1 ++ ([[.v (.int .i64 c15.1), .v (.int .i64 c15.2.1), .v (.int .i64 c15.2.2.1), .v (.int .i64 c15.2.2.2.1), .v (.int .i64 c15.2.2.2.2.1), .v (.int .i64 c15.2.2.2.2.2.1)]] : List (List D1))).length : Nat) : Int)))) && (decide (((((m12.1 ++ ([[.v (.int .i64 c15.1), .v (.int .i64 c15.2.1), .v (.int .i64 c15.2.2.1), .v (.int .i64 c15.2.2.2.1), .v (.int .i64 c15.2.2.2.2.1), .v (.int .i64 c15.2.2.2.2.2.1)]] : List (List D1))).length : Nat) : Int)) ≤ ((((m12.1 ++ ([[.v (.int .i64 c15.1), .v (.int .i64 c15.2.1), .v (.int .i64 c15.2.2.1), .v (.int .i64 c15.2.2.2.1), .v (.int .i64 c15.2.2.2.2.1), .v (.int .i64 c15.2.2.2.2.2.1)]] : List (List D1))).length : Nat) : Int)))) && (decide (((((m12.1 ++ ([[.v (.int .i64 c15.1), .v (.int .i64 c15.2.1), .v (.int .i64 c15.2.2.1), .v (.int .i64 c15.2.2.2.1), .v (.int .i64 c15.2.2.2.2.1), .v (.int .i64 c15.2.2.2.2.2.1)]] : List (List D1))).length : Nat) : Int)) ≤ ((((m12.1 ++ ([[.v (.int .i64 c15.1), .v (.int .i64 c15.2.1), .v (.int .i64 c15.2.2.1), .v (.int .i64 c15.2.2.2.1), .v (.int .i64 c15.2.2.2.2.1), .v (.int .i64 c15.2.2.2.2.2.1)]] : List (List D1))).length : Nat) : Int)))) && decide (((((m12.1 ++ ([[.v (.int .i64 c15.1), .v (.int .i64 c15.2.1), .v (.int .i64 c15.2.2.1), .v (.int .i64 c15.2.2.2.1), .v (.int .i64 c15.2.2.2.2.1), .v (.int .i64 c15.2.2.2.2.2.1)]] : List (List D1))).length : Nat) : Int)).toNat * 8 ≤ 140737488355328) then (
              callT (lvl Try.prog HH (n + 0)).2 41 [.s (.one (.v (.int .i64 weight4))), .s (.one (.v (.int .i64 65536)))] [] outs41 mouts41 fun y16 m17 =>
              letIn (IntKind.wrap .i64 (1 + y16.1) : Int) fun n18 =>
              bif decide (0 ≤ y9.1) then (
                (nth ((List.replicate ((((m8.1.length : Nat) : Int)).toNat) [.v (.int .i64 0)]) : List (List D1)) y9.1.toNat).bind fun cs19 =>
                (nth ((List.replicate ((((m8.1.length : Nat) : Int)).toNat) [.v (.int .i64 0)]) : List (List D1)) y9.1.toNat).bind fun cs20 =>
                (setCells cs20 0 [.v (.int .i64 n18)]).bind fun cs21 =>
                letIn (IntKind.wrap .i64 (((((m12.1 ++ ([[.v (.int .i64 c15.1), .v (.int .i64 c15.2.1), .v (.int .i64 c15.2.2.1), .v (.int .i64 c15.2.2.2.1), .v (.int .i64 c15.2.2.2.2.1), .v (.int .i64 c15.2.2.2.2.2.1)]] : List (List D1))).length : Nat) : Int)) - 1) : Int) fun n22 =>
                bif decide (0 ≤ y9.1) then (
                  (nth ((upd (List.replicate ((((m8.1.length : Nat) : Int)).toNat) [.v (.int .i64 0)]) y9.1.toNat cs21) : List (List D1)) y9.1.toNat).bind fun cs23 =>
                  (nth ((upd (List.replicate ((((m8.1.length : Nat) : Int)).toNat) [.v (.int .i64 0)]) y9.1.toNat cs21) : List (List D1)) y9.1.toNat).bind fun cs24 =>
                  (nth cs24 0).bind fun d25 =>
                  (asInt? .i64 d25).bind fun n26 =>
                  bif decide (0 ≤ n22) then (
                    (nth ((List.replicate (((((m12.1 ++ ([[.v (.int .i64 c15.1), .v (.int .i64 c15.2.1), .v (.int .i64 c15.2.2.1), .v (.int .i64 c15.2.2.2.1), .v (.int .i64 c15.2.2.2.2.1), .v (.int .i64 c15.2.2.2.2.2.1)]] : List (List D1))).length : Nat) : Int)).toNat) [.v (.int .i64 0)]) : List (List D1)) n22.toNat).bind fun cs27 =>
                    (nth ((List.replicate (((((m12.1 ++ ([[.v (.int .i64 c15.1), .v (.int .i64 c15.2.1), .v (.int .i64 c15.2.2.1), .v (.int .i64 c15.2.2.2.1), .v (.int .i64 c15.2.2.2.2.1), .v (.int .i64 c15.2.2.2.2.2.1)]] : List (List D1))).length : Nat) : Int)).toNat) [.v (.int .i64 0)]) : List (List D1)) n22.toNat).bind fun cs28 =>
                    (setCells cs28 0 [.v (.int .i64 n26)]).bind fun cs29 =>
                    callT (lvl Try.prog HH (n + 0)).2 57 [] [] outs57 mouts57 fun y30 m31 =>
                    bif y30.1 then (
                      callT (lvl Try.prog HH (n + 0)).2 59 [.s (.one (.v (.int .i64 p5)))] [] outs59 mouts59 fun y32 m33 =>
                      callT (lvl Try.prog HH (n + 0)).2 59 [.s (.one (.v (.int .i64 q6)))] [] outs59 mouts59 fun y34 m35 =>
                      callT (lvl Try.prog HH (n + 0)).2 61 [.s (.one (.fr 1 (upd (List.replicate ((((m8.1.length : Nat) : Int)).toNat) [.v (.int .i64 0)]) y9.1.toNat cs21))), .s (.one (.fr 1 (upd (List.replicate (((((m12.1 ++ ([[.v (.int .i64 c15.1), .v (.int .i64 c15.2.1), .v (.int .i64 c15.2.2.1), .v (.int .i64 c15.2.2.2.1), .v (.int .i64 c15.2.2.2.2.1), .v (.int .i64 c15.2.2.2.2.2.1)]] : List (List D1))).length : Nat) : Int)).toNat) [.v (.int .i64 0)]) n22.toNat cs29))), .s (.one (.fr 6 m8.1)), .s (.one (.v (.int .i64 y32.1))), .s (.one (.fr 6 (m12.1 ++ ([[.v (.int .i64 c15.1), .v (.int .i64 c15.2.1), .v (.int .i64 c15.2.2.1), .v (.int .i64 c15.2.2.2.1), .v (.int .i64 c15.2.2.2.2.1), .v (.int .i64 c15.2.2.2.2.2.1)]] : List (List D1))))), .s (.one (.v (.int .i64 y34.1)))] [] outs61 mouts61 fun y36 m37 =>
                      some (.s (.one (.v (.bool y36.1))), []))
                    else
                    some (.s (.one (.v (.bool false))), []))
                  else
                  none)
                else
                none)
              else
              none)
            else
            none)
          else
          none)
        else
        none)
      else
      none)
    else
    none := by kernel_rfl

end Go.Proofs.Ytfpdjpleplhcgaa.Am
