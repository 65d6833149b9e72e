/- PRINTED by amprint.py: what the abstract machine answers, function by function. -/
import Derived.Test.YtfpdjpleplhcgaaH
import Derived.KernelRfl
set_option linter.unusedVariables false
set_option maxRecDepth 100000
namespace Go.Proofs.Ytfpdjpleplhcgaa.Am
open Go Go.Proofs

/-! armplan/interval.Mul -/
theorem fn69 (n : Nat) (a1 : Int) (a2 : Int) (b3 : Int) (b4 : Int) : (lvl Try.prog HH (n + 6)).2 69 [.s (.agg true [.v (.int .i64 a1), .v (.int .i64 a2)]), .s (.agg true [.v (.int .i64 b3), .v (.int .i64 b4)])] [] =
    callT (lvl Try.prog HH (n + 5)).2 108 [.s (.agg true [.v (.int .i64 a1), .v (.int .i64 a2)]), .s (.agg true [.v (.int .i64 b3), .v (.int .i64 b4)])] [] outs108 mouts108 fun y5 m6 =>
    bif !y5.1 then (
      some (.s (.agg true [.v (.int .i64 0), .v (.int .i64 0)]), []))
    else
    letIn (IntKind.wrap .i64 (a1 * b3) : Int) fun n7 =>
    letIn (IntKind.wrap .i64 (a1 * b4) : Int) fun n8 =>
    letIn (IntKind.wrap .i64 (a2 * b3) : Int) fun n9 =>
    letIn (IntKind.wrap .i64 (a2 * b4) : Int) fun n10 =>
    letIn (if n7 < n7 then n7 else n7 : Int) fun n11 =>
    letIn (if n7 > n7 then n7 else n7 : Int) fun n12 =>
    letIn (if n8 < n11 then n8 else n11 : Int) fun n13 =>
    letIn (if n8 > n12 then n8 else n12 : Int) fun n14 =>
    letIn (if n9 < n13 then n9 else n13 : Int) fun n15 =>
    letIn (if n9 > n14 then n9 else n14 : Int) fun n16 =>
    letIn (if n10 < n15 then n10 else n15 : Int) fun n17 =>
    letIn (if n10 > n16 then n10 else n16 : Int) fun n18 =>
    callT (lvl Try.prog HH (n + 5)).2 115 [.s (.one (.v (.int .i64 n17))), .s (.one (.v (.int .i64 n18)))] [] outs115 mouts115 fun y19 m20 =>
    some (.s (.agg true [.v (.int .i64 y19.1.1), .v (.int .i64 y19.1.2.1)]), []) := by kernel_rfl

/-! armplan/interval.Of -/
theorem fn46 (n : Nat) (x1 : Int) : (lvl Try.prog HH (n + 1)).2 46 [.s (.one (.v (.int .i64 x1)))] [] =
    callT (lvl Try.prog HH (n + 0)).2 107 [.s (.one (.v (.int .i64 x1))), .s (.one (.v (.int .i64 x1)))] [] outs107 mouts107 fun y2 m3 =>
    some (.s (.agg true [.v (.int .i64 y2.1.1), .v (.int .i64 y2.1.2.1)]), []) := by kernel_rfl

/-! armplan/interval.Add -/
theorem fn67 (n : Nat) (a1 : Int) (a2 : Int) (b3 : Int) (b4 : Int) : (lvl Try.prog HH (n + 1)).2 67 [.s (.agg true [.v (.int .i64 a1), .v (.int .i64 a2)]), .s (.agg true [.v (.int .i64 b3), .v (.int .i64 b4)])] [] =
    callT (lvl Try.prog HH (n + 0)).2 108 [.s (.agg true [.v (.int .i64 a1), .v (.int .i64 a2)]), .s (.agg true [.v (.int .i64 b3), .v (.int .i64 b4)])] [] outs108 mouts108 fun y5 m6 =>
    bif !y5.1 then (
      some (.s (.agg true [.v (.int .i64 0), .v (.int .i64 0)]), []))
    else
    letIn (IntKind.wrap .i64 (a1 + b3) : Int) fun n7 =>
    letIn (IntKind.wrap .i64 (a2 + b4) : Int) fun n8 =>
    callT (lvl Try.prog HH (n + 0)).2 107 [.s (.one (.v (.int .i64 n7))), .s (.one (.v (.int .i64 n8)))] [] outs107 mouts107 fun y9 m10 =>
    some (.s (.agg true [.v (.int .i64 y9.1.1), .v (.int .i64 y9.1.2.1)]), []) := by kernel_rfl

/-! armplan/armplanlaw2.awake -/
theorem fn44 (n : Nat)  : (lvl Try.prog HH (n + 1)).2 44 [] [] =
    callT (lvl Try.prog HH (n + 0)).2 69 [.s (.agg true [.v (.int .i64 (-3)), .v (.int .i64 5)]), .s (.agg true [.v (.int .i64 65536), .v (.int .i64 131072)])] [] outs69 mouts69 fun y1 m2 =>
    letIn ((y1.1.1 == (-6)) && ((y1.1.2.1 == 10) && true) : Bool) fun b3 =>
    bif b3 then (
      callT (lvl Try.prog HH (n + 0)).2 46 [.s (.one (.v (.int .i64 2)))] [] outs46 mouts46 fun y4 m5 =>
      callT (lvl Try.prog HH (n + 0)).2 46 [.s (.one (.v (.int .i64 3)))] [] outs46 mouts46 fun y6 m7 =>
      callT (lvl Try.prog HH (n + 0)).2 67 [.s (.agg true [.v (.int .i64 y4.1.1), .v (.int .i64 y4.1.2.1)]), .s (.agg true [.v (.int .i64 y6.1.1), .v (.int .i64 y6.1.2.1)])] [] outs67 mouts67 fun y8 m9 =>
      callT (lvl Try.prog HH (n + 0)).2 46 [.s (.one (.v (.int .i64 5)))] [] outs46 mouts46 fun y10 m11 =>
      letIn ((y8.1.1 == y10.1.1) && ((y8.1.2.1 == y10.1.2.1) && true) : Bool) fun b12 =>
      some (.s (.one (.v (.bool b12))), []))
    else
    some (.s (.one (.v (.bool false))), []) := by kernel_rfl

/-! armplan/interval.Hull -/
theorem fn52 (n : Nat) (a1 : Int) (a2 : Int) (b3 : Int) (b4 : Int) : (lvl Try.prog HH (n + 1)).2 52 [.s (.agg true [.v (.int .i64 a1), .v (.int .i64 a2)]), .s (.agg true [.v (.int .i64 b3), .v (.int .i64 b4)])] [] =
    callT (lvl Try.prog HH (n + 0)).2 108 [.s (.agg true [.v (.int .i64 a1), .v (.int .i64 a2)]), .s (.agg true [.v (.int .i64 b3), .v (.int .i64 b4)])] [] outs108 mouts108 fun y5 m6 =>
    bif !y5.1 then (
      some (.s (.agg true [.v (.int .i64 0), .v (.int .i64 0)]), []))
    else
    letIn (if b3 < a1 then b3 else a1 : Int) fun n7 =>
    letIn (if b4 > a2 then b4 else a2 : Int) fun n8 =>
    some (.s (.agg true [.v (.int .i64 n7), .v (.int .i64 n8)]), []) := by kernel_rfl

/-! armplan/interval.Within -/
theorem fn51 (n : Nat) (a1 : Int) (a2 : Int) (b3 : Int) (b4 : Int) : (lvl Try.prog HH (n + 1)).2 51 [.s (.agg true [.v (.int .i64 a1), .v (.int .i64 a2)]), .s (.agg true [.v (.int .i64 b3), .v (.int .i64 b4)])] [] =
    callT (lvl Try.prog HH (n + 0)).2 108 [.s (.agg true [.v (.int .i64 a1), .v (.int .i64 a2)]), .s (.agg true [.v (.int .i64 b3), .v (.int .i64 b4)])] [] outs108 mouts108 fun y5 m6 =>
    bif y5.1 then (
      bif decide (b3 ≤ a1) then (
        some (.s (.one (.v (.bool (decide (a2 ≤ b4))))), []))
      else
      some (.s (.one (.v (.bool false))), []))
    else
    some (.s (.one (.v (.bool false))), []) := by kernel_rfl

/-! armplan/armplanlaw2.IntervalMeets -/
theorem fn8 (n : Nat) (k1 : Int) (l2 : Int) (m3 : Int) (n4 : Int) (x5 : Int) : (lvl Try.prog HH (n + 1)).2 8 [.s (.one (.v (.int .i64 k1))), .s (.one (.v (.int .i64 l2))), .s (.one (.v (.int .i64 m3))), .s (.one (.v (.int .i64 n4))), .s (.one (.v (.int .i64 x5)))] [] =
    callT (lvl Try.prog HH (n + 0)).2 43 [.s (.one (.v (.int .i64 k1))), .s (.one (.v (.int .i64 l2)))] [] outs43 mouts43 fun y6 m7 =>
    callT (lvl Try.prog HH (n + 0)).2 43 [.s (.one (.v (.int .i64 m3))), .s (.one (.v (.int .i64 n4)))] [] outs43 mouts43 fun y8 m9 =>
    letIn (IntKind.wrap .i64 ((BitVec.ofInt 64 x5 &&& BitVec.ofInt 64 1).toNat : Nat) : Int) fun n10 =>
    bif n10 == 1 then (
      letIn (if y8.1.2.1 > y6.1.1 then y8.1.2.1 else y6.1.1 : Int) fun n11 =>
      callT (lvl Try.prog HH (n + 0)).2 49 [.s (.agg true [.v (.int .i64 y6.1.1), .v (.int .i64 y6.1.2.1)]), .s (.agg true [.v (.int .i64 y6.1.1), .v (.int .i64 n11)])] [] outs49 mouts49 fun y12 m13 =>
      letIn (IntKind.wrap .i64 (y6.1.2.1 - y6.1.1) : Int) fun n14 =>
      letIn (IntKind.wrap .i64 (n14 + 3) : Int) fun n15 =>
      callT (lvl Try.prog HH (n + 0)).2 41 [.s (.one (.v (.int .i64 x5))), .s (.one (.v (.int .i64 n15)))] [] outs41 mouts41 fun y16 m17 =>
      letIn (IntKind.wrap .i64 (y6.1.1 + y16.1) : Int) fun n18 =>
      letIn (IntKind.wrap .i64 (n18 - 1) : Int) fun n19 =>
      callT (lvl Try.prog HH (n + 0)).2 50 [.s (.agg true [.v (.int .i64 y6.1.1), .v (.int .i64 y6.1.2.1)]), .s (.one (.v (.int .i64 n19)))] [] outs50 mouts50 fun y20 m21 =>
      bif y20.1 then (
        callT (lvl Try.prog HH (n + 0)).2 50 [.s (.agg true [.v (.int .i64 y6.1.1), .v (.int .i64 n11)]), .s (.one (.v (.int .i64 n19)))] [] outs50 mouts50 fun y22 m23 =>
        callT (lvl Try.prog HH (n + 0)).2 44 [] [] outs44 mouts44 fun y24 m25 =>
        bif y24.1 then (
          bif y12.2.1 then (
            callT (lvl Try.prog HH (n + 0)).2 50 [.s (.agg true [.v (.int .i64 y12.1.1), .v (.int .i64 y12.1.2.1)]), .s (.one (.v (.int .i64 n19)))] [] outs50 mouts50 fun y26 m27 =>
            bif y26.1 == y22.1 then (
              callT (lvl Try.prog HH (n + 0)).2 52 [.s (.agg true [.v (.int .i64 y6.1.1), .v (.int .i64 y6.1.2.1)]), .s (.agg true [.v (.int .i64 y6.1.1), .v (.int .i64 n11)])] [] outs52 mouts52 fun y28 m29 =>
              callT (lvl Try.prog HH (n + 0)).2 51 [.s (.agg true [.v (.int .i64 y6.1.1), .v (.int .i64 y6.1.2.1)]), .s (.agg true [.v (.int .i64 y28.1.1), .v (.int .i64 y28.1.2.1)])] [] outs51 mouts51 fun y30 m31 =>
              bif y30.1 then (
                callT (lvl Try.prog HH (n + 0)).2 52 [.s (.agg true [.v (.int .i64 y6.1.1), .v (.int .i64 n11)]), .s (.agg true [.v (.int .i64 y6.1.1), .v (.int .i64 y6.1.2.1)])] [] outs52 mouts52 fun y32 m33 =>
                callT (lvl Try.prog HH (n + 0)).2 51 [.s (.agg true [.v (.int .i64 y6.1.1), .v (.int .i64 n11)]), .s (.agg true [.v (.int .i64 y32.1.1), .v (.int .i64 y32.1.2.1)])] [] outs51 mouts51 fun y34 m35 =>
                bif y34.1 then (
                  bif !y12.2.1 then (
                    some (.s (.one (.v (.bool true))), []))
                  else
                  callT (lvl Try.prog HH (n + 0)).2 51 [.s (.agg true [.v (.int .i64 y12.1.1), .v (.int .i64 y12.1.2.1)]), .s (.agg true [.v (.int .i64 y6.1.1), .v (.int .i64 y6.1.2.1)])] [] outs51 mouts51 fun y36 m37 =>
                  bif y36.1 then (
                    callT (lvl Try.prog HH (n + 0)).2 51 [.s (.agg true [.v (.int .i64 y12.1.1), .v (.int .i64 y12.1.2.1)]), .s (.agg true [.v (.int .i64 y6.1.1), .v (.int .i64 n11)])] [] outs51 mouts51 fun y38 m39 =>
                    some (.s (.one (.v (.bool y38.1))), []))
                  else
                  some (.s (.one (.v (.bool false))), []))
                else
                some (.s (.one (.v (.bool false))), []))
              else
              some (.s (.one (.v (.bool false))), []))
            else
            some (.s (.one (.v (.bool false))), []))
          else
          bif false == y22.1 then (
            callT (lvl Try.prog HH (n + 0)).2 52 [.s (.agg true [.v (.int .i64 y6.1.1), .v (.int .i64 y6.1.2.1)]), .s (.agg true [.v (.int .i64 y6.1.1), .v (.int .i64 n11)])] [] outs52 mouts52 fun y40 m41 =>
            callT (lvl Try.prog HH (n + 0)).2 51 [.s (.agg true [.v (.int .i64 y6.1.1), .v (.int .i64 y6.1.2.1)]), .s (.agg true [.v (.int .i64 y40.1.1), .v (.int .i64 y40.1.2.1)])] [] outs51 mouts51 fun y42 m43 =>
            bif y42.1 then (
              callT (lvl Try.prog HH (n + 0)).2 52 [.s (.agg true [.v (.int .i64 y6.1.1), .v (.int .i64 n11)]), .s (.agg true [.v (.int .i64 y6.1.1), .v (.int .i64 y6.1.2.1)])] [] outs52 mouts52 fun y44 m45 =>
              callT (lvl Try.prog HH (n + 0)).2 51 [.s (.agg true [.v (.int .i64 y6.1.1), .v (.int .i64 n11)]), .s (.agg true [.v (.int .i64 y44.1.1), .v (.int .i64 y44.1.2.1)])] [] outs51 mouts51 fun y46 m47 =>
              bif y46.1 then (
                bif !y12.2.1 then (
                  some (.s (.one (.v (.bool true))), []))
                else
                callT (lvl Try.prog HH (n + 0)).2 51 [.s (.agg true [.v (.int .i64 y12.1.1), .v (.int .i64 y12.1.2.1)]), .s (.agg true [.v (.int .i64 y6.1.1), .v (.int .i64 y6.1.2.1)])] [] outs51 mouts51 fun y48 m49 =>
                bif y48.1 then (
                  callT (lvl Try.prog HH (n + 0)).2 51 [.s (.agg true [.v (.int .i64 y12.1.1), .v (.int .i64 y12.1.2.1)]), .s (.agg true [.v (.int .i64 y6.1.1), .v (.int .i64 n11)])] [] outs51 mouts51 fun y50 m51 =>
                  some (.s (.one (.v (.bool y50.1))), []))
                else
                some (.s (.one (.v (.bool false))), []))
              else
              some (.s (.one (.v (.bool false))), []))
            else
            some (.s (.one (.v (.bool false))), []))
          else
          some (.s (.one (.v (.bool false))), []))
        else
        some (.s (.one (.v (.bool false))), []))
      else
      callT (lvl Try.prog HH (n + 0)).2 44 [] [] outs44 mouts44 fun y52 m53 =>
      bif y52.1 then (
        bif y12.2.1 then (
          callT (lvl Try.prog HH (n + 0)).2 50 [.s (.agg true [.v (.int .i64 y12.1.1), .v (.int .i64 y12.1.2.1)]), .s (.one (.v (.int .i64 n19)))] [] outs50 mouts50 fun y54 m55 =>
          bif y54.1 == false then (
            callT (lvl Try.prog HH (n + 0)).2 52 [.s (.agg true [.v (.int .i64 y6.1.1), .v (.int .i64 y6.1.2.1)]), .s (.agg true [.v (.int .i64 y6.1.1), .v (.int .i64 n11)])] [] outs52 mouts52 fun y56 m57 =>
            callT (lvl Try.prog HH (n + 0)).2 51 [.s (.agg true [.v (.int .i64 y6.1.1), .v (.int .i64 y6.1.2.1)]), .s (.agg true [.v (.int .i64 y56.1.1), .v (.int .i64 y56.1.2.1)])] [] outs51 mouts51 fun y58 m59 =>
            bif y58.1 then (
              callT (lvl Try.prog HH (n + 0)).2 52 [.s (.agg true [.v (.int .i64 y6.1.1), .v (.int .i64 n11)]), .s (.agg true [.v (.int .i64 y6.1.1), .v (.int .i64 y6.1.2.1)])] [] outs52 mouts52 fun y60 m61 =>
              callT (lvl Try.prog HH (n + 0)).2 51 [.s (.agg true [.v (.int .i64 y6.1.1), .v (.int .i64 n11)]), .s (.agg true [.v (.int .i64 y60.1.1), .v (.int .i64 y60.1.2.1)])] [] outs51 mouts51 fun y62 m63 =>
              bif y62.1 then (
                bif !y12.2.1 then (
                  some (.s (.one (.v (.bool true))), []))
                else
                callT (lvl Try.prog HH (n + 0)).2 51 [.s (.agg true [.v (.int .i64 y12.1.1), .v (.int .i64 y12.1.2.1)]), .s (.agg true [.v (.int .i64 y6.1.1), .v (.int .i64 y6.1.2.1)])] [] outs51 mouts51 fun y64 m65 =>
                bif y64.1 then (
                  callT (lvl Try.prog HH (n + 0)).2 51 [.s (.agg true [.v (.int .i64 y12.1.1), .v (.int .i64 y12.1.2.1)]), .s (.agg true [.v (.int .i64 y6.1.1), .v (.int .i64 n11)])] [] outs51 mouts51 fun y66 m67 =>
                  some (.s (.one (.v (.bool y66.1))), []))
                else
                some (.s (.one (.v (.bool false))), []))
              else
              some (.s (.one (.v (.bool false))), []))
            else
            some (.s (.one (.v (.bool false))), []))
          else
          some (.s (.one (.v (.bool false))), []))
        else
        callT (lvl Try.prog HH (n + 0)).2 52 [.s (.agg true [.v (.int .i64 y6.1.1), .v (.int .i64 y6.1.2.1)]), .s (.agg true [.v (.int .i64 y6.1.1), .v (.int .i64 n11)])] [] outs52 mouts52 fun y68 m69 =>
        callT (lvl Try.prog HH (n + 0)).2 51 [.s (.agg true [.v (.int .i64 y6.1.1), .v (.int .i64 y6.1.2.1)]), .s (.agg true [.v (.int .i64 y68.1.1), .v (.int .i64 y68.1.2.1)])] [] outs51 mouts51 fun y70 m71 =>
        bif y70.1 then (
          callT (lvl Try.prog HH (n + 0)).2 52 [.s (.agg true [.v (.int .i64 y6.1.1), .v (.int .i64 n11)]), .s (.agg true [.v (.int .i64 y6.1.1), .v (.int .i64 y6.1.2.1)])] [] outs52 mouts52 fun y72 m73 =>
          callT (lvl Try.prog HH (n + 0)).2 51 [.s (.agg true [.v (.int .i64 y6.1.1), .v (.int .i64 n11)]), .s (.agg true [.v (.int .i64 y72.1.1), .v (.int .i64 y72.1.2.1)])] [] outs51 mouts51 fun y74 m75 =>
          bif y74.1 then (
            bif !y12.2.1 then (
              some (.s (.one (.v (.bool true))), []))
            else
            callT (lvl Try.prog HH (n + 0)).2 51 [.s (.agg true [.v (.int .i64 y12.1.1), .v (.int .i64 y12.1.2.1)]), .s (.agg true [.v (.int .i64 y6.1.1), .v (.int .i64 y6.1.2.1)])] [] outs51 mouts51 fun y76 m77 =>
            bif y76.1 then (
              callT (lvl Try.prog HH (n + 0)).2 51 [.s (.agg true [.v (.int .i64 y12.1.1), .v (.int .i64 y12.1.2.1)]), .s (.agg true [.v (.int .i64 y6.1.1), .v (.int .i64 n11)])] [] outs51 mouts51 fun y78 m79 =>
              some (.s (.one (.v (.bool y78.1))), []))
            else
            some (.s (.one (.v (.bool false))), []))
          else
          some (.s (.one (.v (.bool false))), []))
        else
        some (.s (.one (.v (.bool false))), []))
      else
      some (.s (.one (.v (.bool false))), []))
    else
    callT (lvl Try.prog HH (n + 0)).2 49 [.s (.agg true [.v (.int .i64 y6.1.1), .v (.int .i64 y6.1.2.1)]), .s (.agg true [.v (.int .i64 y8.1.1), .v (.int .i64 y8.1.2.1)])] [] outs49 mouts49 fun y80 m81 =>
    letIn (IntKind.wrap .i64 (y6.1.2.1 - y6.1.1) : Int) fun n82 =>
    letIn (IntKind.wrap .i64 (n82 + 3) : Int) fun n83 =>
    callT (lvl Try.prog HH (n + 0)).2 41 [.s (.one (.v (.int .i64 x5))), .s (.one (.v (.int .i64 n83)))] [] outs41 mouts41 fun y84 m85 =>
    letIn (IntKind.wrap .i64 (y6.1.1 + y84.1) : Int) fun n86 =>
    letIn (IntKind.wrap .i64 (n86 - 1) : Int) fun n87 =>
    callT (lvl Try.prog HH (n + 0)).2 50 [.s (.agg true [.v (.int .i64 y6.1.1), .v (.int .i64 y6.1.2.1)]), .s (.one (.v (.int .i64 n87)))] [] outs50 mouts50 fun y88 m89 =>
    bif y88.1 then (
      callT (lvl Try.prog HH (n + 0)).2 50 [.s (.agg true [.v (.int .i64 y8.1.1), .v (.int .i64 y8.1.2.1)]), .s (.one (.v (.int .i64 n87)))] [] outs50 mouts50 fun y90 m91 =>
      callT (lvl Try.prog HH (n + 0)).2 44 [] [] outs44 mouts44 fun y92 m93 =>
      bif y92.1 then (
        bif y80.2.1 then (
          callT (lvl Try.prog HH (n + 0)).2 50 [.s (.agg true [.v (.int .i64 y80.1.1), .v (.int .i64 y80.1.2.1)]), .s (.one (.v (.int .i64 n87)))] [] outs50 mouts50 fun y94 m95 =>
          bif y94.1 == y90.1 then (
            callT (lvl Try.prog HH (n + 0)).2 52 [.s (.agg true [.v (.int .i64 y6.1.1), .v (.int .i64 y6.1.2.1)]), .s (.agg true [.v (.int .i64 y8.1.1), .v (.int .i64 y8.1.2.1)])] [] outs52 mouts52 fun y96 m97 =>
            callT (lvl Try.prog HH (n + 0)).2 51 [.s (.agg true [.v (.int .i64 y6.1.1), .v (.int .i64 y6.1.2.1)]), .s (.agg true [.v (.int .i64 y96.1.1), .v (.int .i64 y96.1.2.1)])] [] outs51 mouts51 fun y98 m99 =>
            bif y98.1 then (
              callT (lvl Try.prog HH (n + 0)).2 52 [.s (.agg true [.v (.int .i64 y8.1.1), .v (.int .i64 y8.1.2.1)]), .s (.agg true [.v (.int .i64 y6.1.1), .v (.int .i64 y6.1.2.1)])] [] outs52 mouts52 fun y100 m101 =>
              callT (lvl Try.prog HH (n + 0)).2 51 [.s (.agg true [.v (.int .i64 y8.1.1), .v (.int .i64 y8.1.2.1)]), .s (.agg true [.v (.int .i64 y100.1.1), .v (.int .i64 y100.1.2.1)])] [] outs51 mouts51 fun y102 m103 =>
              bif y102.1 then (
                bif !y80.2.1 then (
                  some (.s (.one (.v (.bool true))), []))
                else
                callT (lvl Try.prog HH (n + 0)).2 51 [.s (.agg true [.v (.int .i64 y80.1.1), .v (.int .i64 y80.1.2.1)]), .s (.agg true [.v (.int .i64 y6.1.1), .v (.int .i64 y6.1.2.1)])] [] outs51 mouts51 fun y104 m105 =>
                bif y104.1 then (
                  callT (lvl Try.prog HH (n + 0)).2 51 [.s (.agg true [.v (.int .i64 y80.1.1), .v (.int .i64 y80.1.2.1)]), .s (.agg true [.v (.int .i64 y8.1.1), .v (.int .i64 y8.1.2.1)])] [] outs51 mouts51 fun y106 m107 =>
                  some (.s (.one (.v (.bool y106.1))), []))
                else
                some (.s (.one (.v (.bool false))), []))
              else
              some (.s (.one (.v (.bool false))), []))
            else
            some (.s (.one (.v (.bool false))), []))
          else
          some (.s (.one (.v (.bool false))), []))
        else
        bif false == y90.1 then (
          callT (lvl Try.prog HH (n + 0)).2 52 [.s (.agg true [.v (.int .i64 y6.1.1), .v (.int .i64 y6.1.2.1)]), .s (.agg true [.v (.int .i64 y8.1.1), .v (.int .i64 y8.1.2.1)])] [] outs52 mouts52 fun y108 m109 =>
          callT (lvl Try.prog HH (n + 0)).2 51 [.s (.agg true [.v (.int .i64 y6.1.1), .v (.int .i64 y6.1.2.1)]), .s (.agg true [.v (.int .i64 y108.1.1), .v (.int .i64 y108.1.2.1)])] [] outs51 mouts51 fun y110 m111 =>
          bif y110.1 then (
            callT (lvl Try.prog HH (n + 0)).2 52 [.s (.agg true [.v (.int .i64 y8.1.1), .v (.int .i64 y8.1.2.1)]), .s (.agg true [.v (.int .i64 y6.1.1), .v (.int .i64 y6.1.2.1)])] [] outs52 mouts52 fun y112 m113 =>
            callT (lvl Try.prog HH (n + 0)).2 51 [.s (.agg true [.v (.int .i64 y8.1.1), .v (.int .i64 y8.1.2.1)]), .s (.agg true [.v (.int .i64 y112.1.1), .v (.int .i64 y112.1.2.1)])] [] outs51 mouts51 fun y114 m115 =>
            bif y114.1 then (
              bif !y80.2.1 then (
                some (.s (.one (.v (.bool true))), []))
              else
              callT (lvl Try.prog HH (n + 0)).2 51 [.s (.agg true [.v (.int .i64 y80.1.1), .v (.int .i64 y80.1.2.1)]), .s (.agg true [.v (.int .i64 y6.1.1), .v (.int .i64 y6.1.2.1)])] [] outs51 mouts51 fun y116 m117 =>
              bif y116.1 then (
                callT (lvl Try.prog HH (n + 0)).2 51 [.s (.agg true [.v (.int .i64 y80.1.1), .v (.int .i64 y80.1.2.1)]), .s (.agg true [.v (.int .i64 y8.1.1), .v (.int .i64 y8.1.2.1)])] [] outs51 mouts51 fun y118 m119 =>
                some (.s (.one (.v (.bool y118.1))), []))
              else
              some (.s (.one (.v (.bool false))), []))
            else
            some (.s (.one (.v (.bool false))), []))
          else
          some (.s (.one (.v (.bool false))), []))
        else
        some (.s (.one (.v (.bool false))), []))
      else
      some (.s (.one (.v (.bool false))), []))
    else
    callT (lvl Try.prog HH (n + 0)).2 44 [] [] outs44 mouts44 fun y120 m121 =>
    bif y120.1 then (
      bif y80.2.1 then (
        callT (lvl Try.prog HH (n + 0)).2 50 [.s (.agg true [.v (.int .i64 y80.1.1), .v (.int .i64 y80.1.2.1)]), .s (.one (.v (.int .i64 n87)))] [] outs50 mouts50 fun y122 m123 =>
        bif y122.1 == false then (
          callT (lvl Try.prog HH (n + 0)).2 52 [.s (.agg true [.v (.int .i64 y6.1.1), .v (.int .i64 y6.1.2.1)]), .s (.agg true [.v (.int .i64 y8.1.1), .v (.int .i64 y8.1.2.1)])] [] outs52 mouts52 fun y124 m125 =>
          callT (lvl Try.prog HH (n + 0)).2 51 [.s (.agg true [.v (.int .i64 y6.1.1), .v (.int .i64 y6.1.2.1)]), .s (.agg true [.v (.int .i64 y124.1.1), .v (.int .i64 y124.1.2.1)])] [] outs51 mouts51 fun y126 m127 =>
          bif y126.1 then (
            callT (lvl Try.prog HH (n + 0)).2 52 [.s (.agg true [.v (.int .i64 y8.1.1), .v (.int .i64 y8.1.2.1)]), .s (.agg true [.v (.int .i64 y6.1.1), .v (.int .i64 y6.1.2.1)])] [] outs52 mouts52 fun y128 m129 =>
            callT (lvl Try.prog HH (n + 0)).2 51 [.s (.agg true [.v (.int .i64 y8.1.1), .v (.int .i64 y8.1.2.1)]), .s (.agg true [.v (.int .i64 y128.1.1), .v (.int .i64 y128.1.2.1)])] [] outs51 mouts51 fun y130 m131 =>
            bif y130.1 then (
              bif !y80.2.1 then (
                some (.s (.one (.v (.bool true))), []))
              else
              callT (lvl Try.prog HH (n + 0)).2 51 [.s (.agg true [.v (.int .i64 y80.1.1), .v (.int .i64 y80.1.2.1)]), .s (.agg true [.v (.int .i64 y6.1.1), .v (.int .i64 y6.1.2.1)])] [] outs51 mouts51 fun y132 m133 =>
              bif y132.1 then (
                callT (lvl Try.prog HH (n + 0)).2 51 [.s (.agg true [.v (.int .i64 y80.1.1), .v (.int .i64 y80.1.2.1)]), .s (.agg true [.v (.int .i64 y8.1.1), .v (.int .i64 y8.1.2.1)])] [] outs51 mouts51 fun y134 m135 =>
                some (.s (.one (.v (.bool y134.1))), []))
              else
              some (.s (.one (.v (.bool false))), []))
            else
            some (.s (.one (.v (.bool false))), []))
          else
          some (.s (.one (.v (.bool false))), []))
        else
        some (.s (.one (.v (.bool false))), []))
      else
      callT (lvl Try.prog HH (n + 0)).2 52 [.s (.agg true [.v (.int .i64 y6.1.1), .v (.int .i64 y6.1.2.1)]), .s (.agg true [.v (.int .i64 y8.1.1), .v (.int .i64 y8.1.2.1)])] [] outs52 mouts52 fun y136 m137 =>
      callT (lvl Try.prog HH (n + 0)).2 51 [.s (.agg true [.v (.int .i64 y6.1.1), .v (.int .i64 y6.1.2.1)]), .s (.agg true [.v (.int .i64 y136.1.1), .v (.int .i64 y136.1.2.1)])] [] outs51 mouts51 fun y138 m139 =>
      bif y138.1 then (
        callT (lvl Try.prog HH (n + 0)).2 52 [.s (.agg true [.v (.int .i64 y8.1.1), .v (.int .i64 y8.1.2.1)]), .s (.agg true [.v (.int .i64 y6.1.1), .v (.int .i64 y6.1.2.1)])] [] outs52 mouts52 fun y140 m141 =>
        callT (lvl Try.prog HH (n + 0)).2 51 [.s (.agg true [.v (.int .i64 y8.1.1), .v (.int .i64 y8.1.2.1)]), .s (.agg true [.v (.int .i64 y140.1.1), .v (.int .i64 y140.1.2.1)])] [] outs51 mouts51 fun y142 m143 =>
        bif y142.1 then (
          bif !y80.2.1 then (
            some (.s (.one (.v (.bool true))), []))
          else
          callT (lvl Try.prog HH (n + 0)).2 51 [.s (.agg true [.v (.int .i64 y80.1.1), .v (.int .i64 y80.1.2.1)]), .s (.agg true [.v (.int .i64 y6.1.1), .v (.int .i64 y6.1.2.1)])] [] outs51 mouts51 fun y144 m145 =>
          bif y144.1 then (
            callT (lvl Try.prog HH (n + 0)).2 51 [.s (.agg true [.v (.int .i64 y80.1.1), .v (.int .i64 y80.1.2.1)]), .s (.agg true [.v (.int .i64 y8.1.1), .v (.int .i64 y8.1.2.1)])] [] outs51 mouts51 fun y146 m147 =>
            some (.s (.one (.v (.bool y146.1))), []))
          else
          some (.s (.one (.v (.bool false))), []))
        else
        some (.s (.one (.v (.bool false))), []))
      else
      some (.s (.one (.v (.bool false))), []))
    else
    some (.s (.one (.v (.bool false))), []) := by kernel_rfl

end Go.Proofs.Ytfpdjpleplhcgaa.Am
