/- PRINTED by amprint.py: what the abstract machine answers, function by function. -/
import Derived.Test.YtfpdjpleplhcgaaH
import Derived.KernelRfl
set_option linter.unusedVariables false
set_option maxRecDepth 100000
namespace Go.Proofs.Ytfpdjpleplhcgaa.Am
open Go Go.Proofs

/-! armplan/armplanref1.Clamp -/
theorem fn102 (n : Nat) (a1 : Int) : (lvl Try.prog HH (n + 1)).2 102 [.s (.one (.v (.int .i64 a1)))] [] =
    letIn (if 2147483648 < a1 then 2147483648 else a1 : Int) fun n2 =>
    letIn (if n2 > (-2147483648) then n2 else (-2147483648) : Int) fun n3 =>
    some (.s (.one (.v (.int .i64 n3))), []) := by kernel_rfl

/-! armplan/armplanref1.Of -/
theorem fn47 (n : Nat) (x1 : Int) : (lvl Try.prog HH (n + 1)).2 47 [.s (.one (.v (.int .i64 x1)))] [] =
    callT (lvl Try.prog HH (n + 0)).2 102 [.s (.one (.v (.int .i64 x1)))] [] outs102 mouts102 fun y2 m3 =>
    callT (lvl Try.prog HH (n + 0)).2 102 [.s (.one (.v (.int .i64 x1)))] [] outs102 mouts102 fun y4 m5 =>
    some (.s (.agg true [.v (.int .i64 y2.1), .v (.int .i64 y4.1)]), []) := by kernel_rfl

/-! armplan/armplanref1.Point -/
theorem fn87 (n : Nat) (v1 : Int) (v2 : Int) (v3 : Int) : (lvl Try.prog HH (n + 1)).2 87 [.s (.agg true [.v (.int .i64 v1), .v (.int .i64 v2), .v (.int .i64 v3)])] [] =
    callT (lvl Try.prog HH (n + 0)).2 47 [.s (.one (.v (.int .i64 v1)))] [] outs47 mouts47 fun y4 m5 =>
    callT (lvl Try.prog HH (n + 0)).2 47 [.s (.one (.v (.int .i64 v2)))] [] outs47 mouts47 fun y6 m7 =>
    callT (lvl Try.prog HH (n + 0)).2 47 [.s (.one (.v (.int .i64 v3)))] [] outs47 mouts47 fun y8 m9 =>
    some (.s (.agg true [.v (.int .i64 y4.1.1), .v (.int .i64 y4.1.2.1), .v (.int .i64 y6.1.1), .v (.int .i64 y6.1.2.1), .v (.int .i64 y8.1.1), .v (.int .i64 y8.1.2.1)]), []) := by kernel_rfl

/-! armplan/armplanref1.Valid -/
theorem fn103 (n : Nat) (a1 : Int) (a2 : Int) : (lvl Try.prog HH (n + 1)).2 103 [.s (.agg true [.v (.int .i64 a1), .v (.int .i64 a2)])] [] =
    bif decide ((-2147483648) ≤ a1) then (
      bif decide (a1 ≤ a2) then (
        some (.s (.one (.v (.bool (decide (a2 ≤ 2147483648))))), []))
      else
      some (.s (.one (.v (.bool false))), []))
    else
    some (.s (.one (.v (.bool false))), []) := by kernel_rfl

/-! armplan/armplanref1.limited -/
theorem fn162 (n : Nat) (lo1 : Int) (hi2 : Int) : (lvl Try.prog HH (n + 1)).2 162 [.s (.one (.v (.int .i64 lo1))), .s (.one (.v (.int .i64 hi2)))] [] =
    callT (lvl Try.prog HH (n + 0)).2 102 [.s (.one (.v (.int .i64 lo1)))] [] outs102 mouts102 fun y3 m4 =>
    callT (lvl Try.prog HH (n + 0)).2 102 [.s (.one (.v (.int .i64 hi2)))] [] outs102 mouts102 fun y5 m6 =>
    some (.s (.agg true [.v (.int .i64 y3.1), .v (.int .i64 y5.1)]), []) := by kernel_rfl

/-! armplan/armplanref1.Add -/
theorem fn104 (n : Nat) (a1 : Int) (a2 : Int) (b3 : Int) (b4 : Int) : (lvl Try.prog HH (n + 1)).2 104 [.s (.agg true [.v (.int .i64 a1), .v (.int .i64 a2)]), .s (.agg true [.v (.int .i64 b3), .v (.int .i64 b4)])] [] =
    callT (lvl Try.prog HH (n + 0)).2 103 [.s (.agg true [.v (.int .i64 a1), .v (.int .i64 a2)])] [] outs103 mouts103 fun y5 m6 =>
    bif !y5.1 then (
      some (.s (.agg true [.v (.int .i64 0), .v (.int .i64 0)]), []))
    else
    callT (lvl Try.prog HH (n + 0)).2 103 [.s (.agg true [.v (.int .i64 b3), .v (.int .i64 b4)])] [] outs103 mouts103 fun y7 m8 =>
    bif !y7.1 then (
      some (.s (.agg true [.v (.int .i64 0), .v (.int .i64 0)]), []))
    else
    letIn (IntKind.wrap .i64 (a1 + b3) : Int) fun n9 =>
    letIn (IntKind.wrap .i64 (a2 + b4) : Int) fun n10 =>
    callT (lvl Try.prog HH (n + 0)).2 162 [.s (.one (.v (.int .i64 n9))), .s (.one (.v (.int .i64 n10)))] [] outs162 mouts162 fun y11 m12 =>
    some (.s (.agg true [.v (.int .i64 y11.1.1), .v (.int .i64 y11.1.2.1)]), []) := by kernel_rfl

/-! armplan/armplanref1.AddVec -/
theorem fn86 (n : Nat) (a1 : Int) (a2 : Int) (a3 : Int) (a4 : Int) (a5 : Int) (a6 : Int) (b7 : Int) (b8 : Int) (b9 : Int) (b10 : Int) (b11 : Int) (b12 : Int) : (lvl Try.prog HH (n + 1)).2 86 [.s (.agg true [.v (.int .i64 a1), .v (.int .i64 a2), .v (.int .i64 a3), .v (.int .i64 a4), .v (.int .i64 a5), .v (.int .i64 a6)]), .s (.agg true [.v (.int .i64 b7), .v (.int .i64 b8), .v (.int .i64 b9), .v (.int .i64 b10), .v (.int .i64 b11), .v (.int .i64 b12)])] [] =
    callT (lvl Try.prog HH (n + 0)).2 104 [.s (.agg true [.v (.int .i64 a1), .v (.int .i64 a2)]), .s (.agg true [.v (.int .i64 b7), .v (.int .i64 b8)])] [] outs104 mouts104 fun y13 m14 =>
    callT (lvl Try.prog HH (n + 0)).2 104 [.s (.agg true [.v (.int .i64 a3), .v (.int .i64 a4)]), .s (.agg true [.v (.int .i64 b9), .v (.int .i64 b10)])] [] outs104 mouts104 fun y15 m16 =>
    callT (lvl Try.prog HH (n + 0)).2 104 [.s (.agg true [.v (.int .i64 a5), .v (.int .i64 a6)]), .s (.agg true [.v (.int .i64 b11), .v (.int .i64 b12)])] [] outs104 mouts104 fun y17 m18 =>
    some (.s (.agg true [.v (.int .i64 y13.1.1), .v (.int .i64 y13.1.2.1), .v (.int .i64 y15.1.1), .v (.int .i64 y15.1.2.1), .v (.int .i64 y17.1.1), .v (.int .i64 y17.1.2.1)]), []) := by kernel_rfl

/-! armplan/support.fits -/
theorem fn119 (n : Nat) (v1 : Int) (v2 : Int) (v3 : Int) : (lvl Try.prog HH (n + 5)).2 119 [.s (.agg true [.v (.int .i64 v1), .v (.int .i64 v2), .v (.int .i64 v3)])] [] =
    Option.bind (
      bif decide (v1 < (-16384)) then (
        some (.ret, encSt S119_0_r ((false, ()), ())))
      else
      bif decide (v1 > 16384) then (
        some (.ret, encSt S119_0_r ((false, ()), ())))
      else
      bif decide (v2 < (-16384)) then (
        some (.ret, encSt S119_0_r ((false, ()), ())))
      else
      bif decide (v2 > 16384) then (
        some (.ret, encSt S119_0_r ((false, ()), ())))
      else
      bif decide (v3 < (-16384)) then (
        some (.ret, encSt S119_0_r ((false, ()), ())))
      else
      bif decide (v3 > 16384) then (
        some (.ret, encSt S119_0_r ((false, ()), ())))
      else
      some (.exit 0, encSt S119_0_e0 ((), ()))) fun p4 =>
    bif sameEx (.ret) p4.1 then (decSt S119_0_r p4.2 fun x5 =>
      some (.s (.one (.v (.bool x5.1.1))), []))
    else
    bif sameEx (.exit 0) p4.1 then (decSt S119_0_e0 p4.2 fun x6 =>
      some (.s (.one (.v (.bool true))), []))
    else
    none := by kernel_rfl

/-! armplan/support.Usable -/
theorem fn75 (n : Nat) (n1 : Int) (n2 : Int) (n3 : Int) : (lvl Try.prog HH (n + 1)).2 75 [.s (.agg true [.v (.int .i64 n1), .v (.int .i64 n2), .v (.int .i64 n3)])] [] =
    callT (lvl Try.prog HH (n + 0)).2 119 [.s (.agg true [.v (.int .i64 n1), .v (.int .i64 n2), .v (.int .i64 n3)])] [] outs119 mouts119 fun y4 m5 =>
    bif y4.1 then (
      letIn (!((n1 == 0) && ((n2 == 0) && ((n3 == 0) && true))) : Bool) fun b6 =>
      some (.s (.one (.v (.bool b6))), []))
    else
    some (.s (.one (.v (.bool false))), []) := by kernel_rfl

/-! armplan/shape.reaches -/
theorem fn161 (n : Nat) (a1 : Int) (a2 : Int) : (lvl Try.prog HH (n + 1)).2 161 [.s (.agg true [.v (.int .i64 a1), .v (.int .i64 a2)])] [] =
    bif decide (a1 ≥ (-268435456)) then (
      bif decide (a1 ≤ a2) then (
        some (.s (.one (.v (.bool (decide (a2 ≤ 268435456))))), []))
      else
      some (.s (.one (.v (.bool false))), []))
    else
    some (.s (.one (.v (.bool false))), []) := by kernel_rfl

/-! armplan/shape.Placed -/
theorem loop99_0 (n : Nat) (v2 : List (List D1)) (v3 : List (List D1)) (v4 : Int) (v5 : Int) : (lvl Try.prog HH (n + 1)).1 ⟨99, 0, true⟩ 0 (loopOf Try.f99 0) (encSt S99_0 ((v2, v3, v4, v5, ()), ())) =
    bif decide (v5 < v4) then (
      bif decide (0 ≤ v5) then (
        (nth v3 v5.toNat).bind fun cs6 =>
        bif Nat.beq ((cs6.drop 0).take 6).length 6 then (
          decCts [.int .i64, .int .i64, .int .i64, .int .i64, .int .i64, .int .i64] ((cs6.drop 0).take 6) fun c7 =>
          callT (lvl Try.prog HH (n + 0)).2 161 [.s (.agg true [.v (.int .i64 c7.1), .v (.int .i64 c7.2.1)])] [] outs161 mouts161 fun y8 m9 =>
          bif !y8.1 then (
            some (.ret, encSt S99_0_r ((false, ()), ())))
          else
          callT (lvl Try.prog HH (n + 0)).2 161 [.s (.agg true [.v (.int .i64 c7.2.2.1), .v (.int .i64 c7.2.2.2.1)])] [] outs161 mouts161 fun y10 m11 =>
          bif !y10.1 then (
            some (.ret, encSt S99_0_r ((false, ()), ())))
          else
          callT (lvl Try.prog HH (n + 0)).2 161 [.s (.agg true [.v (.int .i64 c7.2.2.2.2.1), .v (.int .i64 c7.2.2.2.2.2.1)])] [] outs161 mouts161 fun y12 m13 =>
          bif !y12.1 then (
            some (.ret, encSt S99_0_r ((false, ()), ())))
          else
          letIn (IntKind.wrap .i64 (v5 + 1) : Int) fun n14 =>
          (lvl Try.prog HH (n + 0)).1 ⟨99, 0, true⟩ 0 (loopOf Try.f99 0) (encSt S99_0 ((v2, v3, v4, n14, ()), ())))
        else
        none)
      else
      none)
    else
    some (.exit 0, encSt S99_0_e0 ((v2, ()), ())) := by kernel_rfl

theorem fn99 (n : Nat) (l1 : List (List D1)) : (lvl Try.prog HH (n + 1)).2 99 [.s (.one (.fr 6 l1))] [] =
    ((lvl Try.prog HH (n + 0)).1 ⟨99, 0, true⟩ 0 (loopOf Try.f99 0) (encSt S99_0 ((l1, l1, (((l1.length : Nat) : Int)), 0, ()), ()))).bind fun p15 =>
    bif sameEx (.ret) p15.1 then (decSt S99_0_r p15.2 fun x16 =>
      some (.s (.one (.v (.bool x16.1.1))), []))
    else
    bif sameEx (.exit 0) p15.1 then (decSt S99_0_e0 p15.2 fun x17 =>
      bif decide ((((x17.1.1.length : Nat) : Int)) ≥ 1) then (
        some (.s (.one (.v (.bool (decide ((((x17.1.1.length : Nat) : Int)) ≤ 8))))), []))
      else
      some (.s (.one (.v (.bool false))), []))
    else
    none := by kernel_rfl

/-! armplan/support.dot -/
theorem fn144 (n : Nat) (n1 : Int) (n2 : Int) (n3 : Int) (v4 : Int) (v5 : Int) (v6 : Int) (v7 : Int) (v8 : Int) (v9 : Int) : (lvl Try.prog HH (n + 5)).2 144 [.s (.agg true [.v (.int .i64 n1), .v (.int .i64 n2), .v (.int .i64 n3)]), .s (.agg true [.v (.int .i64 v4), .v (.int .i64 v5), .v (.int .i64 v6), .v (.int .i64 v7), .v (.int .i64 v8), .v (.int .i64 v9)])] [] =
    letIn (IntKind.wrap .i64 (n1 * v4) : Int) fun n10 =>
    letIn (IntKind.wrap .i64 (n1 * v5) : Int) fun n11 =>
    letIn (if n11 < n10 then n11 else n10 : Int) fun n12 =>
    letIn (IntKind.wrap .i64 (0 + n12) : Int) fun n13 =>
    letIn (if n11 > n10 then n11 else n10 : Int) fun n14 =>
    letIn (IntKind.wrap .i64 (0 + n14) : Int) fun n15 =>
    letIn (IntKind.wrap .i64 (n2 * v6) : Int) fun n16 =>
    letIn (IntKind.wrap .i64 (n2 * v7) : Int) fun n17 =>
    letIn (if n17 < n16 then n17 else n16 : Int) fun n18 =>
    letIn (IntKind.wrap .i64 (n13 + n18) : Int) fun n19 =>
    letIn (if n17 > n16 then n17 else n16 : Int) fun n20 =>
    letIn (IntKind.wrap .i64 (n15 + n20) : Int) fun n21 =>
    letIn (IntKind.wrap .i64 (n3 * v8) : Int) fun n22 =>
    letIn (IntKind.wrap .i64 (n3 * v9) : Int) fun n23 =>
    letIn (if n23 < n22 then n23 else n22 : Int) fun n24 =>
    letIn (IntKind.wrap .i64 (n19 + n24) : Int) fun n25 =>
    letIn (if n23 > n22 then n23 else n22 : Int) fun n26 =>
    letIn (IntKind.wrap .i64 (n21 + n26) : Int) fun n27 =>
    some (.tup [.one (.v (.int .i64 n25)), .one (.v (.int .i64 n27))], []) := by kernel_rfl

end Go.Proofs.Ytfpdjpleplhcgaa.Am
