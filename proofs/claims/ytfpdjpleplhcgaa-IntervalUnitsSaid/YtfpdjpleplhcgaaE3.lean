/- PRINTED by amprint.py: what the abstract machine answers, function by function. -/
import Derived.Test.YtfpdjpleplhcgaaH
import Derived.KernelRfl
set_option linter.unusedVariables false
set_option maxRecDepth 100000
namespace Go.Proofs.Ytfpdjpleplhcgaa.Am
open Go Go.Proofs

/-! armplan/interval.Scale -/
theorem fn79 (n : Nat) (a1 : Int) (a2 : Int) (k3 : Int) : (lvl Try.prog HH (n + 1)).2 79 [.s (.agg true [.v (.int .i64 a1), .v (.int .i64 a2)]), .s (.one (.v (.int .i64 k3)))] [] =
    callT (lvl Try.prog HH (n + 0)).2 48 [.s (.agg true [.v (.int .i64 a1), .v (.int .i64 a2)])] [] outs48 mouts48 fun y4 m5 =>
    bif !y4.1 then (
      some (.s (.agg true [.v (.int .i64 0), .v (.int .i64 0)]), []))
    else
    callT (lvl Try.prog HH (n + 0)).2 129 [.s (.one (.v (.int .i64 k3)))] [] outs129 mouts129 fun y6 m7 =>
    letIn (IntKind.wrap .i64 (a1 * y6.1) : Int) fun n8 =>
    callT (lvl Try.prog HH (n + 0)).2 129 [.s (.one (.v (.int .i64 k3)))] [] outs129 mouts129 fun y9 m10 =>
    letIn (IntKind.wrap .i64 (a2 * y9.1) : Int) fun n11 =>
    letIn (if n11 < n8 then n11 else n8 : Int) fun n12 =>
    letIn (if n11 > n8 then n11 else n8 : Int) fun n13 =>
    callT (lvl Try.prog HH (n + 0)).2 107 [.s (.one (.v (.int .i64 n12))), .s (.one (.v (.int .i64 n13)))] [] outs107 mouts107 fun y14 m15 =>
    some (.s (.agg true [.v (.int .i64 y14.1.1), .v (.int .i64 y14.1.2.1)]), []) := by kernel_rfl

/-! armplan/armplanlaw2.IntervalUnits -/
theorem fn21 (n : Nat) (k1 : Int) (l2 : Int) : (lvl Try.prog HH (n + 1)).2 21 [.s (.one (.v (.int .i64 k1))), .s (.one (.v (.int .i64 l2)))] [] =
    callT (lvl Try.prog HH (n + 0)).2 43 [.s (.one (.v (.int .i64 k1))), .s (.one (.v (.int .i64 l2)))] [] outs43 mouts43 fun y3 m4 =>
    callT (lvl Try.prog HH (n + 0)).2 44 [] [] outs44 mouts44 fun y5 m6 =>
    bif y5.1 then (
      callT (lvl Try.prog HH (n + 0)).2 46 [.s (.one (.v (.int .i64 65536)))] [] outs46 mouts46 fun y7 m8 =>
      callT (lvl Try.prog HH (n + 0)).2 69 [.s (.agg true [.v (.int .i64 y3.1.1), .v (.int .i64 y3.1.2.1)]), .s (.agg true [.v (.int .i64 y7.1.1), .v (.int .i64 y7.1.2.1)])] [] outs69 mouts69 fun y9 m10 =>
      letIn ((y9.1.1 == y3.1.1) && ((y9.1.2.1 == y3.1.2.1) && true) : Bool) fun b11 =>
      bif b11 then (
        callT (lvl Try.prog HH (n + 0)).2 46 [.s (.one (.v (.int .i64 65536)))] [] outs46 mouts46 fun y12 m13 =>
        callT (lvl Try.prog HH (n + 0)).2 69 [.s (.agg true [.v (.int .i64 y12.1.1), .v (.int .i64 y12.1.2.1)]), .s (.agg true [.v (.int .i64 y3.1.1), .v (.int .i64 y3.1.2.1)])] [] outs69 mouts69 fun y14 m15 =>
        letIn ((y14.1.1 == y3.1.1) && ((y14.1.2.1 == y3.1.2.1) && true) : Bool) fun b16 =>
        bif b16 then (
          callT (lvl Try.prog HH (n + 0)).2 46 [.s (.one (.v (.int .i64 0)))] [] outs46 mouts46 fun y17 m18 =>
          callT (lvl Try.prog HH (n + 0)).2 67 [.s (.agg true [.v (.int .i64 y3.1.1), .v (.int .i64 y3.1.2.1)]), .s (.agg true [.v (.int .i64 y17.1.1), .v (.int .i64 y17.1.2.1)])] [] outs67 mouts67 fun y19 m20 =>
          letIn ((y19.1.1 == y3.1.1) && ((y19.1.2.1 == y3.1.2.1) && true) : Bool) fun b21 =>
          bif b21 then (
            callT (lvl Try.prog HH (n + 0)).2 68 [.s (.agg true [.v (.int .i64 y3.1.1), .v (.int .i64 y3.1.2.1)]), .s (.agg true [.v (.int .i64 y3.1.1), .v (.int .i64 y3.1.2.1)])] [] outs68 mouts68 fun y22 m23 =>
            callT (lvl Try.prog HH (n + 0)).2 50 [.s (.agg true [.v (.int .i64 y22.1.1), .v (.int .i64 y22.1.2.1)]), .s (.one (.v (.int .i64 0)))] [] outs50 mouts50 fun y24 m25 =>
            bif y24.1 then (
              callT (lvl Try.prog HH (n + 0)).2 73 [.s (.agg true [.v (.int .i64 y3.1.1), .v (.int .i64 y3.1.2.1)])] [] outs73 mouts73 fun y26 m27 =>
              callT (lvl Try.prog HH (n + 0)).2 73 [.s (.agg true [.v (.int .i64 y26.1.1), .v (.int .i64 y26.1.2.1)])] [] outs73 mouts73 fun y28 m29 =>
              letIn ((y28.1.1 == y3.1.1) && ((y28.1.2.1 == y3.1.2.1) && true) : Bool) fun b30 =>
              bif b30 then (
                callT (lvl Try.prog HH (n + 0)).2 72 [.s (.agg true [.v (.int .i64 y3.1.1), .v (.int .i64 y3.1.2.1)])] [] outs72 mouts72 fun y31 m32 =>
                callT (lvl Try.prog HH (n + 0)).2 69 [.s (.agg true [.v (.int .i64 y3.1.1), .v (.int .i64 y3.1.2.1)]), .s (.agg true [.v (.int .i64 y3.1.1), .v (.int .i64 y3.1.2.1)])] [] outs69 mouts69 fun y33 m34 =>
                callT (lvl Try.prog HH (n + 0)).2 51 [.s (.agg true [.v (.int .i64 y31.1.1), .v (.int .i64 y31.1.2.1)]), .s (.agg true [.v (.int .i64 y33.1.1), .v (.int .i64 y33.1.2.1)])] [] outs51 mouts51 fun y35 m36 =>
                bif y35.1 then (
                  callT (lvl Try.prog HH (n + 0)).2 79 [.s (.agg true [.v (.int .i64 y3.1.1), .v (.int .i64 y3.1.2.1)]), .s (.one (.v (.int .i64 1)))] [] outs79 mouts79 fun y37 m38 =>
                  letIn ((y37.1.1 == y3.1.1) && ((y37.1.2.1 == y3.1.2.1) && true) : Bool) fun b39 =>
                  some (.s (.one (.v (.bool b39))), []))
                else
                some (.s (.one (.v (.bool false))), []))
              else
              some (.s (.one (.v (.bool false))), []))
            else
            some (.s (.one (.v (.bool false))), []))
          else
          some (.s (.one (.v (.bool false))), []))
        else
        some (.s (.one (.v (.bool false))), []))
      else
      some (.s (.one (.v (.bool false))), []))
    else
    some (.s (.one (.v (.bool false))), []) := by kernel_rfl

end Go.Proofs.Ytfpdjpleplhcgaa.Am
