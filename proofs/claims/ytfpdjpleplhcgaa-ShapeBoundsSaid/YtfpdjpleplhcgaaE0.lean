/- PRINTED by amprint.py: what the abstract machine answers, function by function. -/
import Derived.Test.YtfpdjpleplhcgaaH
import Derived.KernelRfl
set_option linter.unusedVariables false
set_option maxRecDepth 100000
namespace Go.Proofs.Ytfpdjpleplhcgaa.Am
open Go Go.Proofs

/-! armplan/armplanmake.Round -/
theorem fn41 (n : Nat) (n1 : Int) (k2 : Int) : (lvl Try.prog HH (n + 1)).2 41 [.s (.one (.v (.int .i64 n1))), .s (.one (.v (.int .i64 k2)))] [] =
    bif k2 == 0 then (
      none)
    else
    letIn (Int.tmod n1 k2 : Int) fun n3 =>
    bif decide (n3 < 0) then (
      letIn (IntKind.wrap .i64 (n3 + k2) : Int) fun n4 =>
      some (.s (.one (.v (.int .i64 n4))), []))
    else
    some (.s (.one (.v (.int .i64 n3))), []) := by kernel_rfl

/-! armplan/armplanmake.From -/
theorem fn90 (n : Nat) (l1 : List (List D1)) : (lvl Try.prog HH (n + 1)).2 90 [.s (.one (.fr 1 l1))] [] =
    some (.s (.one (.ptr 0 0 0)), [.own 2 true [[.fr 1 l1, .v (.int .i64 0)]]]) := by kernel_rfl

/-! (*armplan/armplanmake.Source).Next -/
theorem fn93s0 (n : Nat) (k1 : Int) (c2 : List (List D1)) (c3 : Int) : (lvl Try.prog HH (n + 1)).2 93 [.s (.one (.ptr 0 0 0)), .s (.one (.v (.int .i64 k1)))] [.own 2 true [[.fr 1 c2, .v (.int .i64 c3)]]] =
    bif decide (c3 ≥ (((c2.length : Nat) : Int))) then (
      some (.s (.one (.v (.int .i64 0))), [.own 2 true [[.fr 1 c2, .v (.int .i64 c3)]]]))
    else
    letIn (IntKind.wrap .i64 (c3 + 1) : Int) fun n4 =>
    letIn (IntKind.wrap .i64 (n4 - 1) : Int) fun n5 =>
    bif decide (0 ≤ n5) then (
      (nth c2 n5.toNat).bind fun cs6 =>
      (nth cs6 0).bind fun d7 =>
      (asInt? .i64 d7).bind fun n8 =>
      callT (lvl Try.prog HH (n + 0)).2 41 [.s (.one (.v (.int .i64 n8))), .s (.one (.v (.int .i64 k1)))] [] outs41 mouts41 fun y9 m10 =>
      some (.s (.one (.v (.int .i64 y9.1))), [.own 2 true [[.fr 1 c2, .v (.int .i64 n4)]]]))
    else
    none := by kernel_rfl

/-! (*armplan/armplanmake.Source).Signed -/
theorem fn97s0 (n : Nat) (k1 : Int) (c2 : List (List D1)) (c3 : Int) : (lvl Try.prog HH (n + 1)).2 97 [.s (.one (.ptr 0 0 0)), .s (.one (.v (.int .i64 k1)))] [.own 2 true [[.fr 1 c2, .v (.int .i64 c3)]]] =
    letIn (IntKind.wrap .i64 (2 * k1) : Int) fun n4 =>
    letIn (IntKind.wrap .i64 (n4 + 1) : Int) fun n5 =>
    callT (lvl Try.prog HH (n + 0)).2 93 [.s (.one (.ptr 0 0 0)), .s (.one (.v (.int .i64 n5)))] [.own 2 true [[.fr 1 c2, .v (.int .i64 c3)]]] outs93 mouts93 fun y6 m7 =>
    letIn (IntKind.wrap .i64 (y6.1 - k1) : Int) fun n8 =>
    some (.s (.one (.v (.int .i64 n8))), [.own 2 true [[.fr 1 m7.1.1, .v (.int .i64 m7.1.2.1)]]]) := by kernel_rfl

/-! armplan/armplanmake.Points -/
theorem loop34_0 (n : Nat) (v17 : Int) (v18 : Int) (c19 : List (List D1)) (c20 : Int) (c21 : Int) (c22 : Int) (c23 : Int) (es24 : List (List D1)) : (lvl Try.prog HH (n + 5)).1 ⟨34, 0, true⟩ 0 (loopOf Try.f34 0) (encSt S34_0 ((v17, (), (), (), v18, ()), ((c19, c20, ()), (c21, c22, c23, ()), es24, ()))) =
    bif decide (v18 > 0) then (
      Option.bind (
        callT (lvl Try.prog HH (n + 3)).2 97 [.s (.one (.ptr 0 0 0)), .s (.one (.v (.int .i64 4)))] [.own 2 true [[.fr 1 c19, .v (.int .i64 c20)]]] outs97 mouts97 fun y25 m26 =>
        letIn (IntKind.wrap .i64 (y25.1 * 32768) : Int) fun n27 =>
        letIn (IntKind.wrap .i64 (c21 + n27) : Int) fun n28 =>
        callT (lvl Try.prog HH (n + 3)).2 97 [.s (.one (.ptr 0 0 0)), .s (.one (.v (.int .i64 9)))] [.own 2 true [[.fr 1 m26.1.1, .v (.int .i64 m26.1.2.1)]]] outs97 mouts97 fun y29 m30 =>
        letIn (IntKind.wrap .i64 (n28 + y29.1) : Int) fun n31 =>
        letIn (IntKind.wrap .i64 (v17 + 1) : Int) fun n32 =>
        callT (lvl Try.prog HH (n + 3)).2 93 [.s (.one (.ptr 0 0 0)), .s (.one (.v (.int .i64 n32)))] [.own 2 true [[.fr 1 m30.1.1, .v (.int .i64 m30.1.2.1)]]] outs93 mouts93 fun y33 m34 =>
        letIn (IntKind.wrap .i64 (n31 + y33.1) : Int) fun n35 =>
        callT (lvl Try.prog HH (n + 2)).2 97 [.s (.one (.ptr 0 0 0)), .s (.one (.v (.int .i64 4)))] [.own 2 true [[.fr 1 m34.1.1, .v (.int .i64 m34.1.2.1)]]] outs97 mouts97 fun y36 m37 =>
        letIn (IntKind.wrap .i64 (y36.1 * 32768) : Int) fun n38 =>
        letIn (IntKind.wrap .i64 (c22 + n38) : Int) fun n39 =>
        callT (lvl Try.prog HH (n + 2)).2 97 [.s (.one (.ptr 0 0 0)), .s (.one (.v (.int .i64 9)))] [.own 2 true [[.fr 1 m37.1.1, .v (.int .i64 m37.1.2.1)]]] outs97 mouts97 fun y40 m41 =>
        letIn (IntKind.wrap .i64 (n39 + y40.1) : Int) fun n42 =>
        letIn (IntKind.wrap .i64 (v17 + 1) : Int) fun n43 =>
        callT (lvl Try.prog HH (n + 2)).2 93 [.s (.one (.ptr 0 0 0)), .s (.one (.v (.int .i64 n43)))] [.own 2 true [[.fr 1 m41.1.1, .v (.int .i64 m41.1.2.1)]]] outs93 mouts93 fun y44 m45 =>
        letIn (IntKind.wrap .i64 (n42 + y44.1) : Int) fun n46 =>
        callT (lvl Try.prog HH (n + 1)).2 97 [.s (.one (.ptr 0 0 0)), .s (.one (.v (.int .i64 4)))] [.own 2 true [[.fr 1 m45.1.1, .v (.int .i64 m45.1.2.1)]]] outs97 mouts97 fun y47 m48 =>
        letIn (IntKind.wrap .i64 (y47.1 * 32768) : Int) fun n49 =>
        letIn (IntKind.wrap .i64 (c23 + n49) : Int) fun n50 =>
        callT (lvl Try.prog HH (n + 1)).2 97 [.s (.one (.ptr 0 0 0)), .s (.one (.v (.int .i64 9)))] [.own 2 true [[.fr 1 m48.1.1, .v (.int .i64 m48.1.2.1)]]] outs97 mouts97 fun y51 m52 =>
        letIn (IntKind.wrap .i64 (n50 + y51.1) : Int) fun n53 =>
        letIn (IntKind.wrap .i64 (v17 + 1) : Int) fun n54 =>
        callT (lvl Try.prog HH (n + 1)).2 93 [.s (.one (.ptr 0 0 0)), .s (.one (.v (.int .i64 n54)))] [.own 2 true [[.fr 1 m52.1.1, .v (.int .i64 m52.1.2.1)]]] outs93 mouts93 fun y55 m56 =>
        letIn (IntKind.wrap .i64 (n53 + y55.1) : Int) fun n57 =>
        some (.exit 2, encSt S34_2_e2 ((v17, (), (), (), v18, (), ()), ((m56.1.1, m56.1.2.1, ()), (c21, c22, c23, ()), es24, (n31, n35, n42, n46, n53, n57, ()), ())))) fun p58 =>
      bif sameEx (.exit 2) p58.1 then (decSt S34_2_e2 p58.2 fun x59 =>
        bif decide ((x59.2.2.2.1.length + 1) * 48 ≤ 140737488355328) then (
          letIn (IntKind.wrap .i64 (x59.1.2.2.2.2.1 - 1) : Int) fun n60 =>
          (lvl Try.prog HH (n + 4)).1 ⟨34, 0, true⟩ 0 (loopOf Try.f34 0) (encSt S34_0 ((x59.1.1, (), (), (), n60, ()), ((x59.2.1.1, x59.2.1.2.1, ()), (x59.2.2.1.1, x59.2.2.1.2.1, x59.2.2.1.2.2.1, ()), (x59.2.2.2.1 ++ ([[.v (.int .i64 x59.2.2.2.2.1.1), .v (.int .i64 x59.2.2.2.2.1.2.1), .v (.int .i64 x59.2.2.2.2.1.2.2.1), .v (.int .i64 x59.2.2.2.2.1.2.2.2.1), .v (.int .i64 x59.2.2.2.2.1.2.2.2.2.1), .v (.int .i64 x59.2.2.2.2.1.2.2.2.2.2.1)]] : List (List D1))), ()))))
        else
        none)
      else
      none)
    else
    some (.exit 0, encSt S34_0_e0 (((), ()), (es24, ()))) := by kernel_rfl

theorem fn34 (n : Nat) (l1 : List (List D1)) (width2 : Int) : (lvl Try.prog HH (n + 1)).2 34 [.s (.one (.fr 1 l1)), .s (.one (.v (.int .i64 width2)))] [] =
    callT (lvl Try.prog HH (n + 0)).2 90 [.s (.one (.fr 1 l1))] [] outs90 mouts90 fun y3 m4 =>
    callT (lvl Try.prog HH (n + 0)).2 97 [.s (.one (.ptr 0 0 0)), .s (.one (.v (.int .i64 6)))] [.own 2 true [[.fr 1 m4.1.1, .v (.int .i64 m4.1.2.1)]]] outs97 mouts97 fun y5 m6 =>
    letIn (IntKind.wrap .i64 (y5.1 * 32768) : Int) fun n7 =>
    callT (lvl Try.prog HH (n + 0)).2 97 [.s (.one (.ptr 0 0 0)), .s (.one (.v (.int .i64 6)))] [.own 2 true [[.fr 1 m6.1.1, .v (.int .i64 m6.1.2.1)]]] outs97 mouts97 fun y8 m9 =>
    letIn (IntKind.wrap .i64 (y8.1 * 32768) : Int) fun n10 =>
    callT (lvl Try.prog HH (n + 0)).2 97 [.s (.one (.ptr 0 0 0)), .s (.one (.v (.int .i64 3)))] [.own 2 true [[.fr 1 m9.1.1, .v (.int .i64 m9.1.2.1)]]] outs97 mouts97 fun y11 m12 =>
    letIn (IntKind.wrap .i64 (y11.1 * 32768) : Int) fun n13 =>
    callT (lvl Try.prog HH (n + 0)).2 93 [.s (.one (.ptr 0 0 0)), .s (.one (.v (.int .i64 5)))] [.own 2 true [[.fr 1 m12.1.1, .v (.int .i64 m12.1.2.1)]]] outs93 mouts93 fun y14 m15 =>
    letIn (IntKind.wrap .i64 (1 + y14.1) : Int) fun n16 =>
    ((lvl Try.prog HH (n + 0)).1 ⟨34, 0, true⟩ 0 (loopOf Try.f34 0) (encSt S34_0 ((width2, (), (), (), n16, ()), ((m15.1.1, m15.1.2.1, ()), (n7, n10, n13, ()), [], ())))).bind fun p61 =>
    bif sameEx (.exit 0) p61.1 then (decSt S34_0_e0 p61.2 fun x62 =>
      some (.s (.one (.fs 0)), [.own 6 true x62.2.1]))
    else
    none := by kernel_rfl

/-! armplan/armplanref1.Clamp -/
theorem fn102 (n : Nat) (a1 : Int) : (lvl Try.prog HH (n + 1)).2 102 [.s (.one (.v (.int .i64 a1)))] [] =
    letIn (if 2147483648 < a1 then 2147483648 else a1 : Int) fun n2 =>
    letIn (if n2 > (-2147483648) then n2 else (-2147483648) : Int) fun n3 =>
    some (.s (.one (.v (.int .i64 n3))), []) := by kernel_rfl

/-! armplan/armplanref1.Of -/
theorem fn47 (n : Nat) (x1 : Int) : (lvl Try.prog HH (n + 1)).2 47 [.s (.one (.v (.int .i64 x1)))] [] =
    callT (lvl Try.prog HH (n + 0)).2 102 [.s (.one (.v (.int .i64 x1)))] [] outs102 mouts102 fun y2 m3 =>
    callT (lvl Try.prog HH (n + 0)).2 102 [.s (.one (.v (.int .i64 x1)))] [] outs102 mouts102 fun y4 m5 =>
    some (.s (.agg true [.v (.int .i64 y2.1), .v (.int .i64 y4.1)]), []) := by kernel_rfl

/-! armplan/armplanref1.Point -/
theorem fn87 (n : Nat) (v1 : Int) (v2 : Int) (v3 : Int) : (lvl Try.prog HH (n + 1)).2 87 [.s (.agg true [.v (.int .i64 v1), .v (.int .i64 v2), .v (.int .i64 v3)])] [] =
    callT (lvl Try.prog HH (n + 0)).2 47 [.s (.one (.v (.int .i64 v1)))] [] outs47 mouts47 fun y4 m5 =>
    callT (lvl Try.prog HH (n + 0)).2 47 [.s (.one (.v (.int .i64 v2)))] [] outs47 mouts47 fun y6 m7 =>
    callT (lvl Try.prog HH (n + 0)).2 47 [.s (.one (.v (.int .i64 v3)))] [] outs47 mouts47 fun y8 m9 =>
    some (.s (.agg true [.v (.int .i64 y4.1.1), .v (.int .i64 y4.1.2.1), .v (.int .i64 y6.1.1), .v (.int .i64 y6.1.2.1), .v (.int .i64 y8.1.1), .v (.int .i64 y8.1.2.1)]), []) := by kernel_rfl

/-! armplan/armplanmake.Boxed -/
theorem loop98_0 (n : Nat) (v2 : List (List D1)) (v3 : Int) (es4 : List (List D1)) : (lvl Try.prog HH (n + 1)).1 ⟨98, 0, true⟩ 0 (loopOf Try.f98 0) (encSt S98_0 ((v2, (), v3, ()), (es4, ()))) =
    bif decide (v3 < (((v2.length : Nat) : Int))) then (
      bif decide (0 ≤ v3) then (
        (nth v2 v3.toNat).bind fun cs5 =>
        bif Nat.beq ((cs5.drop 0).take 3).length 3 then (
          decCts [.int .i64, .int .i64, .int .i64] ((cs5.drop 0).take 3) fun c6 =>
          callT (lvl Try.prog HH (n + 0)).2 87 [.s (.agg true [.v (.int .i64 c6.1), .v (.int .i64 c6.2.1), .v (.int .i64 c6.2.2.1)])] [] outs87 mouts87 fun y7 m8 =>
          bif decide ((es4.length + 1) * 48 ≤ 140737488355328) then (
            letIn (IntKind.wrap .i64 (v3 + 1) : Int) fun n9 =>
            (lvl Try.prog HH (n + 0)).1 ⟨98, 0, true⟩ 0 (loopOf Try.f98 0) (encSt S98_0 ((v2, (), n9, ()), ((es4 ++ ([[.v (.int .i64 y7.1.1), .v (.int .i64 y7.1.2.1), .v (.int .i64 y7.1.2.2.1), .v (.int .i64 y7.1.2.2.2.1), .v (.int .i64 y7.1.2.2.2.2.1), .v (.int .i64 y7.1.2.2.2.2.2.1)]] : List (List D1))), ()))))
          else
          none)
        else
        none)
      else
      none)
    else
    some (.exit 0, encSt S98_0_e0 (((), ()), (es4, ()))) := by kernel_rfl

theorem fn98 (n : Nat) (l1 : List (List D1)) : (lvl Try.prog HH (n + 1)).2 98 [.s (.one (.fr 3 l1))] [] =
    ((lvl Try.prog HH (n + 0)).1 ⟨98, 0, true⟩ 0 (loopOf Try.f98 0) (encSt S98_0 ((l1, (), 0, ()), ([], ())))).bind fun p10 =>
    bif sameEx (.exit 0) p10.1 then (decSt S98_0_e0 p10.2 fun x11 =>
      some (.s (.one (.fr 6 x11.2.1)), []))
    else
    none := by kernel_rfl

/-! armplan/shape.reaches -/
theorem fn161 (n : Nat) (a1 : Int) (a2 : Int) : (lvl Try.prog HH (n + 1)).2 161 [.s (.agg true [.v (.int .i64 a1), .v (.int .i64 a2)])] [] =
    bif decide (a1 ≥ (-268435456)) then (
      bif decide (a1 ≤ a2) then (
        some (.s (.one (.v (.bool (decide (a2 ≤ 268435456))))), []))
      else
      some (.s (.one (.v (.bool false))), []))
    else
    some (.s (.one (.v (.bool false))), []) := by kernel_rfl

/-! armplan/shape.Placed -/
theorem loop99_0 (n : Nat) (v2 : List (List D1)) (v3 : List (List D1)) (v4 : Int) (v5 : Int) : (lvl Try.prog HH (n + 1)).1 ⟨99, 0, true⟩ 0 (loopOf Try.f99 0) (encSt S99_0 ((v2, v3, v4, v5, ()), ())) =
    bif decide (v5 < v4) then (
      bif decide (0 ≤ v5) then (
        (nth v3 v5.toNat).bind fun cs6 =>
        bif Nat.beq ((cs6.drop 0).take 6).length 6 then (
          decCts [.int .i64, .int .i64, .int .i64, .int .i64, .int .i64, .int .i64] ((cs6.drop 0).take 6) fun c7 =>
          callT (lvl Try.prog HH (n + 0)).2 161 [.s (.agg true [.v (.int .i64 c7.1), .v (.int .i64 c7.2.1)])] [] outs161 mouts161 fun y8 m9 =>
          bif !y8.1 then (
            some (.ret, encSt S99_0_r ((false, ()), ())))
          else
          callT (lvl Try.prog HH (n + 0)).2 161 [.s (.agg true [.v (.int .i64 c7.2.2.1), .v (.int .i64 c7.2.2.2.1)])] [] outs161 mouts161 fun y10 m11 =>
          bif !y10.1 then (
            some (.ret, encSt S99_0_r ((false, ()), ())))
          else
          callT (lvl Try.prog HH (n + 0)).2 161 [.s (.agg true [.v (.int .i64 c7.2.2.2.2.1), .v (.int .i64 c7.2.2.2.2.2.1)])] [] outs161 mouts161 fun y12 m13 =>
          bif !y12.1 then (
            some (.ret, encSt S99_0_r ((false, ()), ())))
          else
          letIn (IntKind.wrap .i64 (v5 + 1) : Int) fun n14 =>
          (lvl Try.prog HH (n + 0)).1 ⟨99, 0, true⟩ 0 (loopOf Try.f99 0) (encSt S99_0 ((v2, v3, v4, n14, ()), ())))
        else
        none)
      else
      none)
    else
    some (.exit 0, encSt S99_0_e0 ((v2, ()), ())) := by kernel_rfl

theorem fn99 (n : Nat) (l1 : List (List D1)) : (lvl Try.prog HH (n + 1)).2 99 [.s (.one (.fr 6 l1))] [] =
    ((lvl Try.prog HH (n + 0)).1 ⟨99, 0, true⟩ 0 (loopOf Try.f99 0) (encSt S99_0 ((l1, l1, (((l1.length : Nat) : Int)), 0, ()), ()))).bind fun p15 =>
    bif sameEx (.ret) p15.1 then (decSt S99_0_r p15.2 fun x16 =>
      some (.s (.one (.v (.bool x16.1.1))), []))
    else
    bif sameEx (.exit 0) p15.1 then (decSt S99_0_e0 p15.2 fun x17 =>
      bif decide ((((x17.1.1.length : Nat) : Int)) ≥ 1) then (
        some (.s (.one (.v (.bool (decide ((((x17.1.1.length : Nat) : Int)) ≤ 8))))), []))
      else
      some (.s (.one (.v (.bool false))), []))
    else
    none := by kernel_rfl

end Go.Proofs.Ytfpdjpleplhcgaa.Am
