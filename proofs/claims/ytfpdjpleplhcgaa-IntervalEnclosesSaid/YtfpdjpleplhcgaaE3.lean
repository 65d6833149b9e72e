/- PRINTED by amprint.py: what the abstract machine answers, function by function. -/
import Derived.Test.YtfpdjpleplhcgaaH
import Derived.KernelRfl
set_option linter.unusedVariables false
set_option maxRecDepth 100000
namespace Go.Proofs.Ytfpdjpleplhcgaa.Am
open Go Go.Proofs

/-! armplan/interval.Neg -/
theorem fn73 (n : Nat) (a1 : Int) (a2 : Int) : (lvl Try.prog HH (n + 1)).2 73 [.s (.agg true [.v (.int .i64 a1), .v (.int .i64 a2)])] [] =
    callT (lvl Try.prog HH (n + 0)).2 48 [.s (.agg true [.v (.int .i64 a1), .v (.int .i64 a2)])] [] outs48 mouts48 fun y3 m4 =>
    bif !y3.1 then (
      some (.s (.agg true [.v (.int .i64 0), .v (.int .i64 0)]), []))
    else
    letIn (IntKind.wrap .i64 (0 - a2) : Int) fun n5 =>
    letIn (IntKind.wrap .i64 (0 - a1) : Int) fun n6 =>
    some (.s (.agg true [.v (.int .i64 n5), .v (.int .i64 n6)]), []) := by kernel_rfl

/-! armplan/armplanlaw2.IntervalEncloses -/
theorem fn17 (n : Nat) (k1 : Int) (l2 : Int) (m3 : Int) (n4 : Int) (i5 : Int) (j6 : Int) : (lvl Try.prog HH (n + 1)).2 17 [.s (.one (.v (.int .i64 k1))), .s (.one (.v (.int .i64 l2))), .s (.one (.v (.int .i64 m3))), .s (.one (.v (.int .i64 n4))), .s (.one (.v (.int .i64 i5))), .s (.one (.v (.int .i64 j6)))] [] =
    callT (lvl Try.prog HH (n + 0)).2 43 [.s (.one (.v (.int .i64 k1))), .s (.one (.v (.int .i64 l2)))] [] outs43 mouts43 fun y7 m8 =>
    callT (lvl Try.prog HH (n + 0)).2 43 [.s (.one (.v (.int .i64 m3))), .s (.one (.v (.int .i64 n4)))] [] outs43 mouts43 fun y9 m10 =>
    callT (lvl Try.prog HH (n + 0)).2 65 [.s (.agg true [.v (.int .i64 y7.1.1), .v (.int .i64 y7.1.2.1)]), .s (.one (.v (.int .i64 i5))), .s (.one (.v (.int .i64 0)))] [] outs65 mouts65 fun y11 m12 =>
    callT (lvl Try.prog HH (n + 0)).2 65 [.s (.agg true [.v (.int .i64 y9.1.1), .v (.int .i64 y9.1.2.1)]), .s (.one (.v (.int .i64 j6))), .s (.one (.v (.int .i64 0)))] [] outs65 mouts65 fun y13 m14 =>
    callT (lvl Try.prog HH (n + 0)).2 44 [] [] outs44 mouts44 fun y15 m16 =>
    bif y15.1 then (
      callT (lvl Try.prog HH (n + 0)).2 67 [.s (.agg true [.v (.int .i64 y7.1.1), .v (.int .i64 y7.1.2.1)]), .s (.agg true [.v (.int .i64 y9.1.1), .v (.int .i64 y9.1.2.1)])] [] outs67 mouts67 fun y17 m18 =>
      letIn (IntKind.wrap .i64 (y11.1.1 + y13.1.1) : Int) fun n19 =>
      callT (lvl Try.prog HH (n + 0)).2 66 [.s (.agg true [.v (.int .i64 y17.1.1), .v (.int .i64 y17.1.2.1)]), .s (.one (.v (.int .i64 n19)))] [] outs66 mouts66 fun y20 m21 =>
      bif y20.1 then (
        callT (lvl Try.prog HH (n + 0)).2 68 [.s (.agg true [.v (.int .i64 y7.1.1), .v (.int .i64 y7.1.2.1)]), .s (.agg true [.v (.int .i64 y9.1.1), .v (.int .i64 y9.1.2.1)])] [] outs68 mouts68 fun y22 m23 =>
        letIn (IntKind.wrap .i64 (y11.1.1 - y13.1.1) : Int) fun n24 =>
        callT (lvl Try.prog HH (n + 0)).2 66 [.s (.agg true [.v (.int .i64 y22.1.1), .v (.int .i64 y22.1.2.1)]), .s (.one (.v (.int .i64 n24)))] [] outs66 mouts66 fun y25 m26 =>
        bif y25.1 then (
          callT (lvl Try.prog HH (n + 0)).2 69 [.s (.agg true [.v (.int .i64 y7.1.1), .v (.int .i64 y7.1.2.1)]), .s (.agg true [.v (.int .i64 y9.1.1), .v (.int .i64 y9.1.2.1)])] [] outs69 mouts69 fun y27 m28 =>
          callT (lvl Try.prog HH (n + 0)).2 70 [.s (.one (.v (.int .i64 y11.1.1))), .s (.one (.v (.int .i64 y13.1.1)))] [] outs70 mouts70 fun y29 m30 =>
          callT (lvl Try.prog HH (n + 0)).2 66 [.s (.agg true [.v (.int .i64 y27.1.1), .v (.int .i64 y27.1.2.1)]), .s (.one (.v (.int .i64 y29.1)))] [] outs66 mouts66 fun y31 m32 =>
          bif y31.1 then (
            callT (lvl Try.prog HH (n + 0)).2 69 [.s (.agg true [.v (.int .i64 y7.1.1), .v (.int .i64 y7.1.2.1)]), .s (.agg true [.v (.int .i64 y9.1.1), .v (.int .i64 y9.1.2.1)])] [] outs69 mouts69 fun y33 m34 =>
            callT (lvl Try.prog HH (n + 0)).2 71 [.s (.one (.v (.int .i64 y11.1.1))), .s (.one (.v (.int .i64 y13.1.1)))] [] outs71 mouts71 fun y35 m36 =>
            callT (lvl Try.prog HH (n + 0)).2 66 [.s (.agg true [.v (.int .i64 y33.1.1), .v (.int .i64 y33.1.2.1)]), .s (.one (.v (.int .i64 y35.1)))] [] outs66 mouts66 fun y37 m38 =>
            bif y37.1 then (
              callT (lvl Try.prog HH (n + 0)).2 72 [.s (.agg true [.v (.int .i64 y7.1.1), .v (.int .i64 y7.1.2.1)])] [] outs72 mouts72 fun y39 m40 =>
              callT (lvl Try.prog HH (n + 0)).2 70 [.s (.one (.v (.int .i64 y11.1.1))), .s (.one (.v (.int .i64 y11.1.1)))] [] outs70 mouts70 fun y41 m42 =>
              callT (lvl Try.prog HH (n + 0)).2 66 [.s (.agg true [.v (.int .i64 y39.1.1), .v (.int .i64 y39.1.2.1)]), .s (.one (.v (.int .i64 y41.1)))] [] outs66 mouts66 fun y43 m44 =>
              bif y43.1 then (
                callT (lvl Try.prog HH (n + 0)).2 73 [.s (.agg true [.v (.int .i64 y7.1.1), .v (.int .i64 y7.1.2.1)])] [] outs73 mouts73 fun y45 m46 =>
                letIn (IntKind.wrap .i64 (0 - y11.1.1) : Int) fun n47 =>
                callT (lvl Try.prog HH (n + 0)).2 66 [.s (.agg true [.v (.int .i64 y45.1.1), .v (.int .i64 y45.1.2.1)]), .s (.one (.v (.int .i64 n47)))] [] outs66 mouts66 fun y48 m49 =>
                some (.s (.one (.v (.bool y48.1))), []))
              else
              some (.s (.one (.v (.bool false))), []))
            else
            some (.s (.one (.v (.bool false))), []))
          else
          some (.s (.one (.v (.bool false))), []))
        else
        some (.s (.one (.v (.bool false))), []))
      else
      some (.s (.one (.v (.bool false))), []))
    else
    some (.s (.one (.v (.bool false))), []) := by kernel_rfl

end Go.Proofs.Ytfpdjpleplhcgaa.Am
