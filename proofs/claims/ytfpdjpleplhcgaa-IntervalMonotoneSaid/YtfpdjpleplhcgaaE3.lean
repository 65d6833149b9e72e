/- PRINTED by amprint.py: what the abstract machine answers, function by function. -/
import Derived.Test.YtfpdjpleplhcgaaH
import Derived.KernelRfl
set_option linter.unusedVariables false
set_option maxRecDepth 100000
namespace Go.Proofs.Ytfpdjpleplhcgaa.Am
open Go Go.Proofs

/-! armplan/armplanlaw2.IntervalMonotone -/
theorem fn30 (n : Nat) (k1 : Int) (l2 : Int) (m3 : Int) (n4 : Int) (i5 : Int) (j6 : Int) (x7 : Int) : (lvl Try.prog HH (n + 1)).2 30 [.s (.one (.v (.int .i64 k1))), .s (.one (.v (.int .i64 l2))), .s (.one (.v (.int .i64 m3))), .s (.one (.v (.int .i64 n4))), .s (.one (.v (.int .i64 i5))), .s (.one (.v (.int .i64 j6))), .s (.one (.v (.int .i64 x7)))] [] =
    callT (lvl Try.prog HH (n + 0)).2 43 [.s (.one (.v (.int .i64 k1))), .s (.one (.v (.int .i64 l2)))] [] outs43 mouts43 fun y8 m9 =>
    callT (lvl Try.prog HH (n + 0)).2 43 [.s (.one (.v (.int .i64 m3))), .s (.one (.v (.int .i64 n4)))] [] outs43 mouts43 fun y10 m11 =>
    callT (lvl Try.prog HH (n + 0)).2 65 [.s (.agg true [.v (.int .i64 y8.1.1), .v (.int .i64 y8.1.2.1)]), .s (.one (.v (.int .i64 i5))), .s (.one (.v (.int .i64 j6)))] [] outs65 mouts65 fun y12 m13 =>
    callT (lvl Try.prog HH (n + 0)).2 65 [.s (.agg true [.v (.int .i64 y10.1.1), .v (.int .i64 y10.1.2.1)]), .s (.one (.v (.int .i64 j6))), .s (.one (.v (.int .i64 i5)))] [] outs65 mouts65 fun y14 m15 =>
    callT (lvl Try.prog HH (n + 0)).2 67 [.s (.agg true [.v (.int .i64 y12.1.1), .v (.int .i64 y12.1.2.1)]), .s (.agg true [.v (.int .i64 y14.1.1), .v (.int .i64 y14.1.2.1)])] [] outs67 mouts67 fun y16 m17 =>
    callT (lvl Try.prog HH (n + 0)).2 67 [.s (.agg true [.v (.int .i64 y8.1.1), .v (.int .i64 y8.1.2.1)]), .s (.agg true [.v (.int .i64 y10.1.1), .v (.int .i64 y10.1.2.1)])] [] outs67 mouts67 fun y18 m19 =>
    callT (lvl Try.prog HH (n + 0)).2 51 [.s (.agg true [.v (.int .i64 y16.1.1), .v (.int .i64 y16.1.2.1)]), .s (.agg true [.v (.int .i64 y18.1.1), .v (.int .i64 y18.1.2.1)])] [] outs51 mouts51 fun y20 m21 =>
    bif !y20.1 then (
      some (.s (.one (.v (.bool false))), []))
    else
    callT (lvl Try.prog HH (n + 0)).2 68 [.s (.agg true [.v (.int .i64 y12.1.1), .v (.int .i64 y12.1.2.1)]), .s (.agg true [.v (.int .i64 y14.1.1), .v (.int .i64 y14.1.2.1)])] [] outs68 mouts68 fun y22 m23 =>
    callT (lvl Try.prog HH (n + 0)).2 68 [.s (.agg true [.v (.int .i64 y8.1.1), .v (.int .i64 y8.1.2.1)]), .s (.agg true [.v (.int .i64 y10.1.1), .v (.int .i64 y10.1.2.1)])] [] outs68 mouts68 fun y24 m25 =>
    callT (lvl Try.prog HH (n + 0)).2 51 [.s (.agg true [.v (.int .i64 y22.1.1), .v (.int .i64 y22.1.2.1)]), .s (.agg true [.v (.int .i64 y24.1.1), .v (.int .i64 y24.1.2.1)])] [] outs51 mouts51 fun y26 m27 =>
    bif !y26.1 then (
      some (.s (.one (.v (.bool false))), []))
    else
    callT (lvl Try.prog HH (n + 0)).2 69 [.s (.agg true [.v (.int .i64 y12.1.1), .v (.int .i64 y12.1.2.1)]), .s (.agg true [.v (.int .i64 y14.1.1), .v (.int .i64 y14.1.2.1)])] [] outs69 mouts69 fun y28 m29 =>
    callT (lvl Try.prog HH (n + 0)).2 69 [.s (.agg true [.v (.int .i64 y8.1.1), .v (.int .i64 y8.1.2.1)]), .s (.agg true [.v (.int .i64 y10.1.1), .v (.int .i64 y10.1.2.1)])] [] outs69 mouts69 fun y30 m31 =>
    callT (lvl Try.prog HH (n + 0)).2 51 [.s (.agg true [.v (.int .i64 y28.1.1), .v (.int .i64 y28.1.2.1)]), .s (.agg true [.v (.int .i64 y30.1.1), .v (.int .i64 y30.1.2.1)])] [] outs51 mouts51 fun y32 m33 =>
    bif !y32.1 then (
      some (.s (.one (.v (.bool false))), []))
    else
    callT (lvl Try.prog HH (n + 0)).2 52 [.s (.agg true [.v (.int .i64 y12.1.1), .v (.int .i64 y12.1.2.1)]), .s (.agg true [.v (.int .i64 y14.1.1), .v (.int .i64 y14.1.2.1)])] [] outs52 mouts52 fun y34 m35 =>
    callT (lvl Try.prog HH (n + 0)).2 52 [.s (.agg true [.v (.int .i64 y8.1.1), .v (.int .i64 y8.1.2.1)]), .s (.agg true [.v (.int .i64 y10.1.1), .v (.int .i64 y10.1.2.1)])] [] outs52 mouts52 fun y36 m37 =>
    callT (lvl Try.prog HH (n + 0)).2 51 [.s (.agg true [.v (.int .i64 y34.1.1), .v (.int .i64 y34.1.2.1)]), .s (.agg true [.v (.int .i64 y36.1.1), .v (.int .i64 y36.1.2.1)])] [] outs51 mouts51 fun y38 m39 =>
    bif !y38.1 then (
      some (.s (.one (.v (.bool false))), []))
    else
    callT (lvl Try.prog HH (n + 0)).2 44 [] [] outs44 mouts44 fun y40 m41 =>
    bif y40.1 then (
      callT (lvl Try.prog HH (n + 0)).2 73 [.s (.agg true [.v (.int .i64 y12.1.1), .v (.int .i64 y12.1.2.1)])] [] outs73 mouts73 fun y42 m43 =>
      callT (lvl Try.prog HH (n + 0)).2 73 [.s (.agg true [.v (.int .i64 y8.1.1), .v (.int .i64 y8.1.2.1)])] [] outs73 mouts73 fun y44 m45 =>
      callT (lvl Try.prog HH (n + 0)).2 51 [.s (.agg true [.v (.int .i64 y42.1.1), .v (.int .i64 y42.1.2.1)]), .s (.agg true [.v (.int .i64 y44.1.1), .v (.int .i64 y44.1.2.1)])] [] outs51 mouts51 fun y46 m47 =>
      bif y46.1 then (
        callT (lvl Try.prog HH (n + 0)).2 72 [.s (.agg true [.v (.int .i64 y12.1.1), .v (.int .i64 y12.1.2.1)])] [] outs72 mouts72 fun y48 m49 =>
        callT (lvl Try.prog HH (n + 0)).2 72 [.s (.agg true [.v (.int .i64 y8.1.1), .v (.int .i64 y8.1.2.1)])] [] outs72 mouts72 fun y50 m51 =>
        callT (lvl Try.prog HH (n + 0)).2 51 [.s (.agg true [.v (.int .i64 y48.1.1), .v (.int .i64 y48.1.2.1)]), .s (.agg true [.v (.int .i64 y50.1.1), .v (.int .i64 y50.1.2.1)])] [] outs51 mouts51 fun y52 m53 =>
        bif y52.1 then (
          callT (lvl Try.prog HH (n + 0)).2 81 [.s (.agg true [.v (.int .i64 y12.1.1), .v (.int .i64 y12.1.2.1)])] [] outs81 mouts81 fun y54 m55 =>
          callT (lvl Try.prog HH (n + 0)).2 81 [.s (.agg true [.v (.int .i64 y8.1.1), .v (.int .i64 y8.1.2.1)])] [] outs81 mouts81 fun y56 m57 =>
          callT (lvl Try.prog HH (n + 0)).2 51 [.s (.agg true [.v (.int .i64 y54.1.1), .v (.int .i64 y54.1.2.1)]), .s (.agg true [.v (.int .i64 y56.1.1), .v (.int .i64 y56.1.2.1)])] [] outs51 mouts51 fun y58 m59 =>
          bif y58.1 then (
            callT (lvl Try.prog HH (n + 0)).2 79 [.s (.agg true [.v (.int .i64 y12.1.1), .v (.int .i64 y12.1.2.1)]), .s (.one (.v (.int .i64 x7)))] [] outs79 mouts79 fun y60 m61 =>
            callT (lvl Try.prog HH (n + 0)).2 79 [.s (.agg true [.v (.int .i64 y8.1.1), .v (.int .i64 y8.1.2.1)]), .s (.one (.v (.int .i64 x7)))] [] outs79 mouts79 fun y62 m63 =>
            callT (lvl Try.prog HH (n + 0)).2 51 [.s (.agg true [.v (.int .i64 y60.1.1), .v (.int .i64 y60.1.2.1)]), .s (.agg true [.v (.int .i64 y62.1.1), .v (.int .i64 y62.1.2.1)])] [] outs51 mouts51 fun y64 m65 =>
            some (.s (.one (.v (.bool y64.1))), []))
          else
          some (.s (.one (.v (.bool false))), []))
        else
        some (.s (.one (.v (.bool false))), []))
      else
      some (.s (.one (.v (.bool false))), []))
    else
    some (.s (.one (.v (.bool false))), []) := by kernel_rfl

end Go.Proofs.Ytfpdjpleplhcgaa.Am
