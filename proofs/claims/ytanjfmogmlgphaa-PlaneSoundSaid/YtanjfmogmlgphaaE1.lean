/- PRINTED by amprint.py: what the abstract machine answers, function by function. -/
import Derived.Test.YtanjfmogmlgphaaH
import Derived.KernelRfl
set_option linter.unusedVariables false
set_option maxRecDepth 100000
namespace Go.Proofs.Ytanjfmogmlgphaa.Am
open Go Go.Proofs

/-! armplan/armplanmake.Weights -/
theorem loop22_0 (n : Nat) (v5 : Int) (v6 : Int) (c7 : List (List D1)) (c8 : Int) (es9 : List (List D1)) : (lvl Try.prog HH (n + 1)).1 ⟨22, 0, true⟩ 0 (loopOf Try.f22 0) (encSt S22_0 ((v5, (), (), v6, ()), ((c7, c8, ()), es9, ()))) =
    bif decide (v6 < v5) then (
      callT (lvl Try.prog HH (n + 0)).2 27 [.s (.one (.ptr 0 0 0)), .s (.one (.v (.int .i64 9)))] [.own 2 true [[.fr 1 c7, .v (.int .i64 c8)]]] outs27 mouts27 fun y10 m11 =>
      bif decide ((es9.length + 1) * 8 ≤ 140737488355328) then (
        letIn (IntKind.wrap .i64 (v6 + 1) : Int) fun n12 =>
        (lvl Try.prog HH (n + 0)).1 ⟨22, 0, true⟩ 0 (loopOf Try.f22 0) (encSt S22_0 ((v5, (), (), n12, ()), ((m11.1.1, m11.1.2.1, ()), (es9 ++ ([[.v (.int .i64 y10.1)]] : List (List D1))), ()))))
      else
      none)
    else
    some (.exit 0, encSt S22_0_e0 ((v5, (), (), ()), ((c7, c8, ()), es9, ()))) := by kernel_rfl

theorem fn22 (n : Nat) (n1 : Int) (l2 : List (List D1)) : (lvl Try.prog HH (n + 1)).2 22 [.s (.one (.v (.int .i64 n1))), .s (.one (.fr 1 l2))] [] =
    callT (lvl Try.prog HH (n + 0)).2 26 [.s (.one (.fr 1 l2))] [] outs26 mouts26 fun y3 m4 =>
    ((lvl Try.prog HH (n + 0)).1 ⟨22, 0, true⟩ 0 (loopOf Try.f22 0) (encSt S22_0 ((n1, (), (), 0, ()), ((m4.1.1, m4.1.2.1, ()), [], ())))).bind fun p13 =>
    bif sameEx (.exit 0) p13.1 then (decSt S22_0_e0 p13.2 fun x14 =>
      bif decide (x14.1.1 > 0) then (
        callT (lvl Try.prog HH (n + 0)).2 27 [.s (.one (.ptr 0 0 0)), .s (.one (.v (.int .i64 x14.1.1)))] [.own 2 true [[.fr 1 x14.2.1.1, .v (.int .i64 x14.2.1.2.1)]]] outs27 mouts27 fun y15 m16 =>
        bif decide (0 ≤ y15.1) then (
          (nth x14.2.2.1 y15.1.toNat).bind fun cs17 =>
          (nth x14.2.2.1 y15.1.toNat).bind fun cs18 =>
          (nth cs18 0).bind fun d19 =>
          (asInt? .i64 d19).bind fun n20 =>
          letIn (IntKind.wrap .i64 (n20 + 1) : Int) fun n21 =>
          bif decide (0 ≤ y15.1) then (
            (nth x14.2.2.1 y15.1.toNat).bind fun cs22 =>
            (nth x14.2.2.1 y15.1.toNat).bind fun cs23 =>
            (setCells cs23 0 [.v (.int .i64 n21)]).bind fun cs24 =>
            some (.s (.one (.fr 1 (upd x14.2.2.1 y15.1.toNat cs24))), []))
          else
          none)
        else
        none)
      else
      some (.s (.one (.fr 1 x14.2.2.1)), []))
    else
    none := by kernel_rfl

/-! armplan/armplanlaw15.radius -/
theorem fn15 (n : Nat) (r1 : Int) : (lvl Try.prog HH (n + 1)).2 15 [.s (.one (.v (.int .i64 r1)))] [] =
    letIn (Int.fdiv r1 4 : Int) fun n2 =>
    letIn (IntKind.wrap .i64 ((BitVec.ofInt 64 r1 &&& BitVec.ofInt 64 3).toNat : Nat) : Int) fun n3 =>
    bif (decide (0 ≤ n3)) && (decide (n3 < 4)) then (
      (nth ([.v (.int .i64 1), .v (.int .i64 9000), .v (.int .i64 70000), .v (.int .i64 1048577)] : List D1) (n3.toNat * 1)).bind fun d4 =>
      (asInt? .i64 d4).bind fun n5 =>
      callT (lvl Try.prog HH (n + 0)).2 20 [.s (.one (.v (.int .i64 n2))), .s (.one (.v (.int .i64 n5)))] [] outs20 mouts20 fun y6 m7 =>
      some (.s (.one (.v (.int .i64 y6.1))), []))
    else
    none := by kernel_rfl

/-! armplan/support.fits -/
theorem fn54 (n : Nat) (v1 : Int) (v2 : Int) (v3 : Int) : (lvl Try.prog HH (n + 5)).2 54 [.s (.agg true [.v (.int .i64 v1), .v (.int .i64 v2), .v (.int .i64 v3)])] [] =
    Option.bind (
      bif decide (v1 < (-16384)) then (
        some (.ret, encSt S54_0_r ((false, ()), ())))
      else
      bif decide (v1 > 16384) then (
        some (.ret, encSt S54_0_r ((false, ()), ())))
      else
      bif decide (v2 < (-16384)) then (
        some (.ret, encSt S54_0_r ((false, ()), ())))
      else
      bif decide (v2 > 16384) then (
        some (.ret, encSt S54_0_r ((false, ()), ())))
      else
      bif decide (v3 < (-16384)) then (
        some (.ret, encSt S54_0_r ((false, ()), ())))
      else
      bif decide (v3 > 16384) then (
        some (.ret, encSt S54_0_r ((false, ()), ())))
      else
      some (.exit 0, encSt S54_0_e0 ((), ()))) fun p4 =>
    bif sameEx (.ret) p4.1 then (decSt S54_0_r p4.2 fun x5 =>
      some (.s (.one (.v (.bool x5.1.1))), []))
    else
    bif sameEx (.exit 0) p4.1 then (decSt S54_0_e0 p4.2 fun x6 =>
      some (.s (.one (.v (.bool true))), []))
    else
    none := by kernel_rfl

/-! armplan/support.Usable -/
theorem fn43 (n : Nat) (n1 : Int) (n2 : Int) (n3 : Int) : (lvl Try.prog HH (n + 1)).2 43 [.s (.agg true [.v (.int .i64 n1), .v (.int .i64 n2), .v (.int .i64 n3)])] [] =
    callT (lvl Try.prog HH (n + 0)).2 54 [.s (.agg true [.v (.int .i64 n1), .v (.int .i64 n2), .v (.int .i64 n3)])] [] outs54 mouts54 fun y4 m5 =>
    bif y4.1 then (
      letIn (!((n1 == 0) && ((n2 == 0) && ((n3 == 0) && true))) : Bool) fun b6 =>
      some (.s (.one (.v (.bool b6))), []))
    else
    some (.s (.one (.v (.bool false))), []) := by kernel_rfl

/-! armplan/shape.reaches -/
theorem fn64 (n : Nat) (a1 : Int) (a2 : Int) : (lvl Try.prog HH (n + 1)).2 64 [.s (.agg true [.v (.int .i64 a1), .v (.int .i64 a2)])] [] =
    bif decide (a1 ≥ (-268435456)) then (
      bif decide (a1 ≤ a2) then (
        some (.s (.one (.v (.bool (decide (a2 ≤ 268435456))))), []))
      else
      some (.s (.one (.v (.bool false))), []))
    else
    some (.s (.one (.v (.bool false))), []) := by kernel_rfl

/-! armplan/shape.Placed -/
theorem loop55_0 (n : Nat) (v2 : List (List D1)) (v3 : List (List D1)) (v4 : Int) (v5 : Int) : (lvl Try.prog HH (n + 1)).1 ⟨55, 0, true⟩ 0 (loopOf Try.f55 0) (encSt S55_0 ((v2, v3, v4, v5, ()), ())) =
    bif decide (v5 < v4) then (
      bif decide (0 ≤ v5) then (
        (nth v3 v5.toNat).bind fun cs6 =>
        bif Nat.beq ((cs6.drop 0).take 6).length 6 then (
          decCts [.int .i64, .int .i64, .int .i64, .int .i64, .int .i64, .int .i64] ((cs6.drop 0).take 6) fun c7 =>
          callT (lvl Try.prog HH (n + 0)).2 64 [.s (.agg true [.v (.int .i64 c7.1), .v (.int .i64 c7.2.1)])] [] outs64 mouts64 fun y8 m9 =>
          bif !y8.1 then (
            some (.ret, encSt S55_0_r ((false, ()), ())))
          else
          callT (lvl Try.prog HH (n + 0)).2 64 [.s (.agg true [.v (.int .i64 c7.2.2.1), .v (.int .i64 c7.2.2.2.1)])] [] outs64 mouts64 fun y10 m11 =>
          bif !y10.1 then (
            some (.ret, encSt S55_0_r ((false, ()), ())))
          else
          callT (lvl Try.prog HH (n + 0)).2 64 [.s (.agg true [.v (.int .i64 c7.2.2.2.2.1), .v (.int .i64 c7.2.2.2.2.2.1)])] [] outs64 mouts64 fun y12 m13 =>
          bif !y12.1 then (
            some (.ret, encSt S55_0_r ((false, ()), ())))
          else
          letIn (IntKind.wrap .i64 (v5 + 1) : Int) fun n14 =>
          (lvl Try.prog HH (n + 0)).1 ⟨55, 0, true⟩ 0 (loopOf Try.f55 0) (encSt S55_0 ((v2, v3, v4, n14, ()), ())))
        else
        none)
      else
      none)
    else
    some (.exit 0, encSt S55_0_e0 ((v2, ()), ())) := by kernel_rfl

theorem fn55 (n : Nat) (l1 : List (List D1)) : (lvl Try.prog HH (n + 1)).2 55 [.s (.one (.fr 6 l1))] [] =
    ((lvl Try.prog HH (n + 0)).1 ⟨55, 0, true⟩ 0 (loopOf Try.f55 0) (encSt S55_0 ((l1, l1, (((l1.length : Nat) : Int)), 0, ()), ()))).bind fun p15 =>
    bif sameEx (.ret) p15.1 then (decSt S55_0_r p15.2 fun x16 =>
      some (.s (.one (.v (.bool x16.1.1))), []))
    else
    bif sameEx (.exit 0) p15.1 then (decSt S55_0_e0 p15.2 fun x17 =>
      bif decide ((((x17.1.1.length : Nat) : Int)) ≥ 1) then (
        some (.s (.one (.v (.bool (decide ((((x17.1.1.length : Nat) : Int)) ≤ 8))))), []))
      else
      some (.s (.one (.v (.bool false))), []))
    else
    none := by kernel_rfl

/-! (armplan/plane.hull).usable -/
theorem fn44 (n : Nat) (h1 : List (List D1)) (h2 : Int) : (lvl Try.prog HH (n + 1)).2 44 [.s (.agg true [.fr 6 h1, .v (.int .i64 h2)])] [] =
    callT (lvl Try.prog HH (n + 0)).2 55 [.s (.one (.fr 6 h1))] [] outs55 mouts55 fun y3 m4 =>
    bif y3.1 then (
      bif decide (h2 ≥ 0) then (
        some (.s (.one (.v (.bool (decide (h2 ≤ 1048576))))), []))
      else
      some (.s (.one (.v (.bool false))), []))
    else
    some (.s (.one (.v (.bool false))), []) := by kernel_rfl

/-! armplan/support.dot -/
theorem fn57 (n : Nat) (n1 : Int) (n2 : Int) (n3 : Int) (v4 : Int) (v5 : Int) (v6 : Int) (v7 : Int) (v8 : Int) (v9 : Int) : (lvl Try.prog HH (n + 5)).2 57 [.s (.agg true [.v (.int .i64 n1), .v (.int .i64 n2), .v (.int .i64 n3)]), .s (.agg true [.v (.int .i64 v4), .v (.int .i64 v5), .v (.int .i64 v6), .v (.int .i64 v7), .v (.int .i64 v8), .v (.int .i64 v9)])] [] =
    letIn (IntKind.wrap .i64 (n1 * v4) : Int) fun n10 =>
    letIn (IntKind.wrap .i64 (n1 * v5) : Int) fun n11 =>
    letIn (if n11 < n10 then n11 else n10 : Int) fun n12 =>
    letIn (IntKind.wrap .i64 (0 + n12) : Int) fun n13 =>
    letIn (if n11 > n10 then n11 else n10 : Int) fun n14 =>
    letIn (IntKind.wrap .i64 (0 + n14) : Int) fun n15 =>
    letIn (IntKind.wrap .i64 (n2 * v6) : Int) fun n16 =>
    letIn (IntKind.wrap .i64 (n2 * v7) : Int) fun n17 =>
    letIn (if n17 < n16 then n17 else n16 : Int) fun n18 =>
    letIn (IntKind.wrap .i64 (n13 + n18) : Int) fun n19 =>
    letIn (if n17 > n16 then n17 else n16 : Int) fun n20 =>
    letIn (IntKind.wrap .i64 (n15 + n20) : Int) fun n21 =>
    letIn (IntKind.wrap .i64 (n3 * v8) : Int) fun n22 =>
    letIn (IntKind.wrap .i64 (n3 * v9) : Int) fun n23 =>
    letIn (if n23 < n22 then n23 else n22 : Int) fun n24 =>
    letIn (IntKind.wrap .i64 (n19 + n24) : Int) fun n25 =>
    letIn (if n23 > n22 then n23 else n22 : Int) fun n26 =>
    letIn (IntKind.wrap .i64 (n21 + n26) : Int) fun n27 =>
    some (.tup [.one (.v (.int .i64 n25)), .one (.v (.int .i64 n27))], []) := by kernel_rfl

/-! armplan/support.Least$1 -/
theorem fn56s0 (n : Nat) (v1 : Int) (v2 : Int) (v3 : Int) (v4 : Int) (v5 : Int) (v6 : Int) (c7 : Int) (c8 : Int) (c9 : Int) : (lvl Try.prog HH (n + 1)).2 56 [.s (.agg true [.v (.int .i64 v1), .v (.int .i64 v2), .v (.int .i64 v3), .v (.int .i64 v4), .v (.int .i64 v5), .v (.int .i64 v6)]), .s (.one (.ptr 0 0 0))] [.own 3 true [[.v (.int .i64 c7), .v (.int .i64 c8), .v (.int .i64 c9)]]] =
    callT (lvl Try.prog HH (n + 0)).2 57 [.s (.agg true [.v (.int .i64 c7), .v (.int .i64 c8), .v (.int .i64 c9)]), .s (.agg true [.v (.int .i64 v1), .v (.int .i64 v2), .v (.int .i64 v3), .v (.int .i64 v4), .v (.int .i64 v5), .v (.int .i64 v6)])] [] outs57 mouts57 fun y10 m11 =>
    some (.s (.one (.v (.int .i64 y10.1))), [.own 3 true [[.v (.int .i64 c7), .v (.int .i64 c8), .v (.int .i64 c9)]]]) := by kernel_rfl

/-! armplan/support.Least$2 -/
theorem fn58 (n : Nat) (x1 : Int) (y2 : Int) : (lvl Try.prog HH (n + 1)).2 58 [.s (.one (.v (.int .i64 x1))), .s (.one (.v (.int .i64 y2)))] [] =
    some (.s (.one (.v (.bool (decide (x1 < y2))))), []) := by kernel_rfl

/-! (armplan/support.search).first -/
theorem loop59s0_0 (n : Nat) (v9 : Int) (v10 : Int) (v11 : List (List D1)) (v12 : Int) (v13 : Int) (c14 : Int) (c15 : Int) (c16 : Int) : (lvl Try.prog HH (n + 1)).1 ⟨59, 1, true⟩ 0 (loopOf Try.f59 0) (encSt S59s0_0 (((), v9, v10, v11, v12, v13, ()), ((c14, c15, c16, ()), ((.clo 56 [.ptr 0 0 0]), (.v (.func (.func 58) #[] #[])), ()), ()))) =
    bif decide (v13 < v12) then (
      bif decide (0 ≤ v13) then (
        (nth v11 v13.toNat).bind fun cs17 =>
        bif Nat.beq ((cs17.drop 0).take 6).length 6 then (
          decCts [.int .i64, .int .i64, .int .i64, .int .i64, .int .i64, .int .i64] ((cs17.drop 0).take 6) fun c18 =>
          callT (lvl Try.prog HH (n + 0)).2 56 [.s (.agg true [.v (.int .i64 c18.1), .v (.int .i64 c18.2.1), .v (.int .i64 c18.2.2.1), .v (.int .i64 c18.2.2.2.1), .v (.int .i64 c18.2.2.2.2.1), .v (.int .i64 c18.2.2.2.2.2.1)]), .s (.one (.ptr 0 0 0))] [.own 3 true [[.v (.int .i64 c14), .v (.int .i64 c15), .v (.int .i64 c16)]]] outs56 mouts56 fun y19 m20 =>
          callT (lvl Try.prog HH (n + 0)).2 58 [.s (.one (.v (.int .i64 y19.1))), .s (.one (.v (.int .i64 v9)))] [] outs58 mouts58 fun y21 m22 =>
          bif y21.1 then (
            letIn (IntKind.wrap .i64 (v13 + 1) : Int) fun n23 =>
            (lvl Try.prog HH (n + 0)).1 ⟨59, 1, true⟩ 0 (loopOf Try.f59 0) (encSt S59s0_0 (((), y19.1, v13, v11, v12, n23, ()), ((c14, c15, c16, ()), ((.clo 56 [.ptr 0 0 0]), (.v (.func (.func 58) #[] #[])), ()), ()))))
          else
          letIn (IntKind.wrap .i64 (v13 + 1) : Int) fun n24 =>
          (lvl Try.prog HH (n + 0)).1 ⟨59, 1, true⟩ 0 (loopOf Try.f59 0) (encSt S59s0_0 (((), v9, v10, v11, v12, n24, ()), ((c14, c15, c16, ()), ((.clo 56 [.ptr 0 0 0]), (.v (.func (.func 58) #[] #[])), ()), ()))))
        else
        none)
      else
      none)
    else
    some (.exit 0, encSt S59s0_0_e0 ((v9, v10, ()), ((c14, c15, c16, ()), ()))) := by kernel_rfl

theorem fn59s0 (n : Nat) (l1 : List (List D1)) (c2 : Int) (c3 : Int) (c4 : Int) : (lvl Try.prog HH (n + 1)).2 59 [.s (.agg false [.clo 56 [.ptr 0 0 0], .v (.func (.func 58) #[] #[])]), .s (.one (.fr 6 l1))] [.own 3 true [[.v (.int .i64 c2), .v (.int .i64 c3), .v (.int .i64 c4)]]] =
    (nth l1 0).bind fun cs5 =>
    bif Nat.beq ((cs5.drop 0).take 6).length 6 then (
      decCts [.int .i64, .int .i64, .int .i64, .int .i64, .int .i64, .int .i64] ((cs5.drop 0).take 6) fun c6 =>
      callT (lvl Try.prog HH (n + 0)).2 56 [.s (.agg true [.v (.int .i64 c6.1), .v (.int .i64 c6.2.1), .v (.int .i64 c6.2.2.1), .v (.int .i64 c6.2.2.2.1), .v (.int .i64 c6.2.2.2.2.1), .v (.int .i64 c6.2.2.2.2.2.1)]), .s (.one (.ptr 0 0 0))] [.own 3 true [[.v (.int .i64 c2), .v (.int .i64 c3), .v (.int .i64 c4)]]] outs56 mouts56 fun y7 m8 =>
      ((lvl Try.prog HH (n + 0)).1 ⟨59, 1, true⟩ 0 (loopOf Try.f59 0) (encSt S59s0_0 (((), y7.1, 0, l1, (((l1.length : Nat) : Int)), 0, ()), ((c2, c3, c4, ()), ((.clo 56 [.ptr 0 0 0]), (.v (.func (.func 58) #[] #[])), ()), ())))).bind fun p25 =>
      bif sameEx (.exit 0) p25.1 then (decSt S59s0_0_e0 p25.2 fun x26 =>
        some (.tup [.one (.v (.int .i64 x26.1.1)), .one (.v (.int .i64 x26.1.2.1))], [.own 3 true [[.v (.int .i64 x26.2.1.1), .v (.int .i64 x26.2.1.2.1), .v (.int .i64 x26.2.1.2.2.1)]]]))
      else
      none)
    else
    none := by kernel_rfl

end Go.Proofs.Ytanjfmogmlgphaa.Am
