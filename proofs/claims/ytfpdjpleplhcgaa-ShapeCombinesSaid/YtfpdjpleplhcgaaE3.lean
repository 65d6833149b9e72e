/- PRINTED by amprint.py: what the abstract machine answers, function by function. -/
import Derived.Test.YtfpdjpleplhcgaaH
import Derived.KernelRfl
set_option linter.unusedVariables false
set_option maxRecDepth 100000
namespace Go.Proofs.Ytfpdjpleplhcgaa.Am
open Go Go.Proofs

/-! armplan/armplanlaw10.combines -/
theorem fn37 (n : Nat) (l1 : List (List D1)) (weights2 : List (List D1)) : (lvl Try.prog HH (n + 1)).2 37 [.s (.one (.fr 6 l1)), .s (.one (.fr 1 weights2))] [] =
    callT (lvl Try.prog HH (n + 0)).2 38 [.s (.one (.fr 6 l1)), .s (.one (.fr 1 weights2))] [] outs38 mouts38 fun y3 m4 =>
    callT (lvl Try.prog HH (n + 0)).2 100 [.s (.one (.fr 6 l1)), .s (.one (.fr 1 weights2))] [] outs100 mouts100 fun y5 m6 =>
    letIn (((y3.1.1 == y5.1.1) && ((y3.1.2.1 == y5.1.2.1) && true)) && (((y3.1.2.2.1 == y5.1.2.2.1) && ((y3.1.2.2.2.1 == y5.1.2.2.2.1) && true)) && (((y3.1.2.2.2.2.1 == y5.1.2.2.2.2.1) && ((y3.1.2.2.2.2.2.1 == y5.1.2.2.2.2.2.1) && true)) && true)) : Bool) fun b7 =>
    bif b7 then (
      bif y3.2.1 == y5.2.1 then (
        some (.s (.one (.v (.bool (y3.2.2.1 == y5.2.2.1)))), []))
      else
      some (.s (.one (.v (.bool false))), []))
    else
    some (.s (.one (.v (.bool false))), []) := by kernel_rfl

/-! armplan/armplanlaw10.ShapeCombines -/
theorem fn3 (n : Nat) (raw1 : List (List D1)) (weights2 : List (List D1)) (l3 : List (List D1)) (m4 : List (List D1)) (n5 : Int) : (lvl Try.prog HH (n + 1)).2 3 [.s (.one (.fr 6 raw1)), .s (.one (.fr 1 weights2)), .s (.one (.fr 1 l3)), .s (.one (.fr 1 m4)), .s (.one (.v (.int .i64 n5)))] [] =
    callT (lvl Try.prog HH (n + 0)).2 34 [.s (.one (.fr 1 l3)), .s (.one (.v (.int .i64 900)))] [] outs34 mouts34 fun y6 m7 =>
    callT (lvl Try.prog HH (n + 0)).2 35 [.s (.one (.v (.int .i64 (((y6.1.length : Nat) : Int))))), .s (.one (.fr 1 m4))] [] outs35 mouts35 fun y8 m9 =>
    bif decide ((0 + y8.1.length) * 8 ≤ 140737488355328) then (
      letIn (IntKind.wrap .i64 ((((([] ++ y8.1).length : Nat) : Int)) - 1) : Int) fun n10 =>
      bif decide (0 ≤ n10) then (
        (nth ([] ++ y8.1) n10.toNat).bind fun cs11 =>
        (nth ([] ++ y8.1) n10.toNat).bind fun cs12 =>
        (nth cs12 0).bind fun d13 =>
        (asInt? .i64 d13).bind fun n14 =>
        letIn (Int.fdiv n5 1099511627776 : Int) fun n15 =>
        letIn (IntKind.wrap .i64 (n14 + n15) : Int) fun n16 =>
        bif decide (0 ≤ n10) then (
          (nth ([] ++ y8.1) n10.toNat).bind fun cs17 =>
          (nth ([] ++ y8.1) n10.toNat).bind fun cs18 =>
          (setCells cs18 0 [.v (.int .i64 n16)]).bind fun cs19 =>
          callT (lvl Try.prog HH (n + 0)).2 36 [] [] outs36 mouts36 fun y20 m21 =>
          bif y20.1 then (
            callT (lvl Try.prog HH (n + 0)).2 37 [.s (.one (.fr 6 raw1)), .s (.one (.fr 1 weights2))] [] outs37 mouts37 fun y22 m23 =>
            bif y22.1 then (
              callT (lvl Try.prog HH (n + 0)).2 37 [.s (.one (.fr 6 y6.1)), .s (.one (.fr 1 weights2))] [] outs37 mouts37 fun y24 m25 =>
              bif y24.1 then (
                callT (lvl Try.prog HH (n + 0)).2 37 [.s (.one (.fr 6 y6.1)), .s (.one (.fr 1 y8.1))] [] outs37 mouts37 fun y26 m27 =>
                bif y26.1 then (
                  callT (lvl Try.prog HH (n + 0)).2 37 [.s (.one (.fr 6 y6.1)), .s (.one (.fr 1 (upd ([] ++ y8.1) n10.toNat cs19)))] [] outs37 mouts37 fun y28 m29 =>
                  bif y28.1 then (
                    bif (decide (0 ≤ (((y6.1.length : Nat) : Int)))) && (decide ((((y6.1.length : Nat) : Int)) ≤ (((y6.1.length : Nat) : Int)))) && (decide ((((y6.1.length : Nat) : Int)) ≤ (((y6.1.length : Nat) : Int)))) && decide ((((y6.1.length : Nat) : Int)).toNat * 8 ≤ 140737488355328) then (
                      callT (lvl Try.prog HH (n + 0)).2 37 [.s (.one (.fr 6 y6.1)), .s (.one (.fr 1 (List.replicate ((((y6.1.length : Nat) : Int)).toNat) [.v (.int .i64 0)])))] [] outs37 mouts37 fun y30 m31 =>
                      some (.s (.one (.v (.bool y30.1))), []))
                    else
                    none)
                  else
                  some (.s (.one (.v (.bool false))), []))
                else
                some (.s (.one (.v (.bool false))), []))
              else
              some (.s (.one (.v (.bool false))), []))
            else
            some (.s (.one (.v (.bool false))), []))
          else
          some (.s (.one (.v (.bool false))), []))
        else
        none)
      else
      none)
    else
    none := by kernel_rfl

end Go.Proofs.Ytfpdjpleplhcgaa.Am
