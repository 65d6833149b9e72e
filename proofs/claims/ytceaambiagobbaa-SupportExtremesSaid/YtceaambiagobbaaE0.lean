/- PRINTED by amprint.py: what the abstract machine answers, function by function. -/
import Derived.Test.YtceaambiagobbaaH
import Derived.KernelRfl
set_option linter.unusedVariables false
set_option maxRecDepth 100000
namespace Go.Proofs.Ytceaambiagobbaa.Am
open Go Go.Proofs

/-! armplan/armplanmake.Round -/
theorem fn14 (n : Nat) (n1 : Int) (k2 : Int) : (lvl Try.prog HH (n + 1)).2 14 [.s (.one (.v (.int .i64 n1))), .s (.one (.v (.int .i64 k2)))] [] =
    bif k2 == 0 then (
      none)
    else
    letIn (Int.tmod n1 k2 : Int) fun n3 =>
    bif decide (n3 < 0) then (
      letIn (IntKind.wrap .i64 (n3 + k2) : Int) fun n4 =>
      some (.s (.one (.v (.int .i64 n4))), []))
    else
    some (.s (.one (.v (.int .i64 n3))), []) := by kernel_rfl

/-! armplan/armplanref6.Near -/
theorem fn28 (n : Nat) (v1 : Int) (v2 : Int) (v3 : Int) (most4 : Int) : (lvl Try.prog HH (n + 5)).2 28 [.s (.agg true [.v (.int .i64 v1), .v (.int .i64 v2), .v (.int .i64 v3)]), .s (.one (.v (.int .i64 most4)))] [] =
    Option.bind (
      letIn (IntKind.wrap .i64 (0 - most4) : Int) fun n5 =>
      bif decide (v1 < n5) then (
        some (.ret, encSt S28_0_r ((false, ()), ())))
      else
      bif decide (v1 > most4) then (
        some (.ret, encSt S28_0_r ((false, ()), ())))
      else
      letIn (IntKind.wrap .i64 (0 - most4) : Int) fun n6 =>
      bif decide (v2 < n6) then (
        some (.ret, encSt S28_0_r ((false, ()), ())))
      else
      bif decide (v2 > most4) then (
        some (.ret, encSt S28_0_r ((false, ()), ())))
      else
      letIn (IntKind.wrap .i64 (0 - most4) : Int) fun n7 =>
      bif decide (v3 < n7) then (
        some (.ret, encSt S28_0_r ((false, ()), ())))
      else
      bif decide (v3 > most4) then (
        some (.ret, encSt S28_0_r ((false, ()), ())))
      else
      some (.exit 0, encSt S28_0_e0 ((), ()))) fun p8 =>
    bif sameEx (.ret) p8.1 then (decSt S28_0_r p8.2 fun x9 =>
      some (.s (.one (.v (.bool x9.1.1))), []))
    else
    bif sameEx (.exit 0) p8.1 then (decSt S28_0_e0 p8.2 fun x10 =>
      some (.s (.one (.v (.bool true))), []))
    else
    none := by kernel_rfl

/-! armplan/armplanref10.Usable -/
theorem fn15 (n : Nat) (n1 : Int) (n2 : Int) (n3 : Int) : (lvl Try.prog HH (n + 1)).2 15 [.s (.agg true [.v (.int .i64 n1), .v (.int .i64 n2), .v (.int .i64 n3)])] [] =
    letIn (!((n1 == 0) && ((n2 == 0) && ((n3 == 0) && true))) : Bool) fun b4 =>
    bif b4 then (
      callT (lvl Try.prog HH (n + 0)).2 28 [.s (.agg true [.v (.int .i64 n1), .v (.int .i64 n2), .v (.int .i64 n3)]), .s (.one (.v (.int .i64 16384)))] [] outs28 mouts28 fun y5 m6 =>
      some (.s (.one (.v (.bool y5.1))), []))
    else
    some (.s (.one (.v (.bool false))), []) := by kernel_rfl

/-! armplan/armplanmake.Normal -/
theorem fn6_w (w : CallF → CallF) (v : LoopF → LoopF) (n : Nat) (a1 : Int) (b2 : Int) (c3 : Int) : (lvlW w v symL Try.prog HH (n + 1)).2 6 [.s (.one (.v (.int .i64 a1))), .s (.one (.v (.int .i64 b2))), .s (.one (.v (.int .i64 c3)))] [] =
    callT (w (lvlW w v symL Try.prog HH (n + 0)).2) 14 [.s (.one (.v (.int .i64 a1))), .s (.one (.v (.int .i64 41)))] [] outs14 mouts14 fun y4 m5 =>
    letIn (IntKind.wrap .i64 (y4.1 - 20) : Int) fun n6 =>
    callT (w (lvlW w v symL Try.prog HH (n + 0)).2) 14 [.s (.one (.v (.int .i64 b2))), .s (.one (.v (.int .i64 41)))] [] outs14 mouts14 fun y7 m8 =>
    letIn (IntKind.wrap .i64 (y7.1 - 20) : Int) fun n9 =>
    callT (w (lvlW w v symL Try.prog HH (n + 0)).2) 14 [.s (.one (.v (.int .i64 c3))), .s (.one (.v (.int .i64 41)))] [] outs14 mouts14 fun y10 m11 =>
    letIn (IntKind.wrap .i64 (y10.1 - 20) : Int) fun n12 =>
    letIn (IntKind.wrap .i64 ((BitVec.ofInt 64 a1 &&& BitVec.ofInt 64 8).toNat : Nat) : Int) fun n13 =>
    bif n13 == 8 then (
      callT (w (lvlW w v symL Try.prog HH (n + 0)).2) 14 [.s (.one (.v (.int .i64 a1))), .s (.one (.v (.int .i64 32769)))] [] outs14 mouts14 fun y14 m15 =>
      letIn (IntKind.wrap .i64 (y14.1 - 16384) : Int) fun n16 =>
      callT (w (lvlW w v symL Try.prog HH (n + 0)).2) 14 [.s (.one (.v (.int .i64 b2))), .s (.one (.v (.int .i64 32769)))] [] outs14 mouts14 fun y17 m18 =>
      letIn (IntKind.wrap .i64 (y17.1 - 16384) : Int) fun n19 =>
      callT (w (lvlW w v symL Try.prog HH (n + 0)).2) 14 [.s (.one (.v (.int .i64 c3))), .s (.one (.v (.int .i64 32769)))] [] outs14 mouts14 fun y20 m21 =>
      letIn (IntKind.wrap .i64 (y20.1 - 16384) : Int) fun n22 =>
      callT (w (lvlW w v symL Try.prog HH (n + 0)).2) 15 [.s (.agg true [.v (.int .i64 n16), .v (.int .i64 n19), .v (.int .i64 n22)])] [] outs15 mouts15 fun y23 m24 =>
      bif !y23.1 then (
        some (.s (.agg true [.v (.int .i64 1), .v (.int .i64 0), .v (.int .i64 0)]), []))
      else
      some (.s (.agg true [.v (.int .i64 n16), .v (.int .i64 n19), .v (.int .i64 n22)]), []))
    else
    callT (w (lvlW w v symL Try.prog HH (n + 0)).2) 15 [.s (.agg true [.v (.int .i64 n6), .v (.int .i64 n9), .v (.int .i64 n12)])] [] outs15 mouts15 fun y25 m26 =>
    bif !y25.1 then (
      some (.s (.agg true [.v (.int .i64 1), .v (.int .i64 0), .v (.int .i64 0)]), []))
    else
    some (.s (.agg true [.v (.int .i64 n6), .v (.int .i64 n9), .v (.int .i64 n12)]), []) := by kernel_rfl
theorem fn6 (n : Nat) (a1 : Int) (b2 : Int) (c3 : Int) : (lvl Try.prog HH (n + 1)).2 6 [.s (.one (.v (.int .i64 a1))), .s (.one (.v (.int .i64 b2))), .s (.one (.v (.int .i64 c3)))] [] =
    callT (lvl Try.prog HH (n + 0)).2 14 [.s (.one (.v (.int .i64 a1))), .s (.one (.v (.int .i64 41)))] [] outs14 mouts14 fun y4 m5 =>
    letIn (IntKind.wrap .i64 (y4.1 - 20) : Int) fun n6 =>
    callT (lvl Try.prog HH (n + 0)).2 14 [.s (.one (.v (.int .i64 b2))), .s (.one (.v (.int .i64 41)))] [] outs14 mouts14 fun y7 m8 =>
    letIn (IntKind.wrap .i64 (y7.1 - 20) : Int) fun n9 =>
    callT (lvl Try.prog HH (n + 0)).2 14 [.s (.one (.v (.int .i64 c3))), .s (.one (.v (.int .i64 41)))] [] outs14 mouts14 fun y10 m11 =>
    letIn (IntKind.wrap .i64 (y10.1 - 20) : Int) fun n12 =>
    letIn (IntKind.wrap .i64 ((BitVec.ofInt 64 a1 &&& BitVec.ofInt 64 8).toNat : Nat) : Int) fun n13 =>
    bif n13 == 8 then (
      callT (lvl Try.prog HH (n + 0)).2 14 [.s (.one (.v (.int .i64 a1))), .s (.one (.v (.int .i64 32769)))] [] outs14 mouts14 fun y14 m15 =>
      letIn (IntKind.wrap .i64 (y14.1 - 16384) : Int) fun n16 =>
      callT (lvl Try.prog HH (n + 0)).2 14 [.s (.one (.v (.int .i64 b2))), .s (.one (.v (.int .i64 32769)))] [] outs14 mouts14 fun y17 m18 =>
      letIn (IntKind.wrap .i64 (y17.1 - 16384) : Int) fun n19 =>
      callT (lvl Try.prog HH (n + 0)).2 14 [.s (.one (.v (.int .i64 c3))), .s (.one (.v (.int .i64 32769)))] [] outs14 mouts14 fun y20 m21 =>
      letIn (IntKind.wrap .i64 (y20.1 - 16384) : Int) fun n22 =>
      callT (lvl Try.prog HH (n + 0)).2 15 [.s (.agg true [.v (.int .i64 n16), .v (.int .i64 n19), .v (.int .i64 n22)])] [] outs15 mouts15 fun y23 m24 =>
      bif !y23.1 then (
        some (.s (.agg true [.v (.int .i64 1), .v (.int .i64 0), .v (.int .i64 0)]), []))
      else
      some (.s (.agg true [.v (.int .i64 n16), .v (.int .i64 n19), .v (.int .i64 n22)]), []))
    else
    callT (lvl Try.prog HH (n + 0)).2 15 [.s (.agg true [.v (.int .i64 n6), .v (.int .i64 n9), .v (.int .i64 n12)])] [] outs15 mouts15 fun y25 m26 =>
    bif !y25.1 then (
      some (.s (.agg true [.v (.int .i64 1), .v (.int .i64 0), .v (.int .i64 0)]), []))
    else
    some (.s (.agg true [.v (.int .i64 n6), .v (.int .i64 n9), .v (.int .i64 n12)]), []) := by
  have h := fn6_w (fun x => x) (fun x => x) n a1 b2 c3
  rw [lvlW_id] at h
  exact h

/-! armplan/armplanmake.From -/
theorem fn21 (n : Nat) (l1 : List (List D1)) : (lvl Try.prog HH (n + 1)).2 21 [.s (.one (.fr 1 l1))] [] =
    some (.s (.one (.ptr 0 0 0)), [.own 2 true [[.fr 1 l1, .v (.int .i64 0)]]]) := by kernel_rfl

/-! (*armplan/armplanmake.Source).Next -/
theorem fn23s0 (n : Nat) (k1 : Int) (c2 : List (List D1)) (c3 : Int) : (lvl Try.prog HH (n + 1)).2 23 [.s (.one (.ptr 0 0 0)), .s (.one (.v (.int .i64 k1)))] [.own 2 true [[.fr 1 c2, .v (.int .i64 c3)]]] =
    bif decide (c3 ≥ (((c2.length : Nat) : Int))) then (
      some (.s (.one (.v (.int .i64 0))), [.own 2 true [[.fr 1 c2, .v (.int .i64 c3)]]]))
    else
    letIn (IntKind.wrap .i64 (c3 + 1) : Int) fun n4 =>
    letIn (IntKind.wrap .i64 (n4 - 1) : Int) fun n5 =>
    bif decide (0 ≤ n5) then (
      (nth c2 n5.toNat).bind fun cs6 =>
      (nth cs6 0).bind fun d7 =>
      (asInt? .i64 d7).bind fun n8 =>
      callT (lvl Try.prog HH (n + 0)).2 14 [.s (.one (.v (.int .i64 n8))), .s (.one (.v (.int .i64 k1)))] [] outs14 mouts14 fun y9 m10 =>
      some (.s (.one (.v (.int .i64 y9.1))), [.own 2 true [[.fr 1 c2, .v (.int .i64 n4)]]]))
    else
    none := by kernel_rfl

/-! (*armplan/armplanmake.Source).Signed -/
theorem fn22s0 (n : Nat) (k1 : Int) (c2 : List (List D1)) (c3 : Int) : (lvl Try.prog HH (n + 1)).2 22 [.s (.one (.ptr 0 0 0)), .s (.one (.v (.int .i64 k1)))] [.own 2 true [[.fr 1 c2, .v (.int .i64 c3)]]] =
    letIn (IntKind.wrap .i64 (2 * k1) : Int) fun n4 =>
    letIn (IntKind.wrap .i64 (n4 + 1) : Int) fun n5 =>
    callT (lvl Try.prog HH (n + 0)).2 23 [.s (.one (.ptr 0 0 0)), .s (.one (.v (.int .i64 n5)))] [.own 2 true [[.fr 1 c2, .v (.int .i64 c3)]]] outs23 mouts23 fun y6 m7 =>
    letIn (IntKind.wrap .i64 (y6.1 - k1) : Int) fun n8 =>
    some (.s (.one (.v (.int .i64 n8))), [.own 2 true [[.fr 1 m7.1.1, .v (.int .i64 m7.1.2.1)]]]) := by kernel_rfl

/-! armplan/armplanmake.Points -/
theorem loop12_0_w (w : CallF → CallF) (v : LoopF → LoopF) (n : Nat) (v17 : Int) (v18 : Int) (c19 : List (List D1)) (c20 : Int) (c21 : Int) (c22 : Int) (c23 : Int) (es24 : List (List D1)) : (lvlW w v symL Try.prog HH (n + 5)).1 ⟨12, 0, true⟩ 0 (loopOf Try.f12 0) (encSt S12_0 ((v17, (), (), (), v18, ()), ((c19, c20, ()), (c21, c22, c23, ()), es24, ()))) =
    bif decide (v18 > 0) then (
      Option.bind (
        callT (w (lvlW w v symL Try.prog HH (n + 3)).2) 22 [.s (.one (.ptr 0 0 0)), .s (.one (.v (.int .i64 4)))] [.own 2 true [[.fr 1 c19, .v (.int .i64 c20)]]] outs22 mouts22 fun y25 m26 =>
        letIn (IntKind.wrap .i64 (y25.1 * 32768) : Int) fun n27 =>
        letIn (IntKind.wrap .i64 (c21 + n27) : Int) fun n28 =>
        callT (w (lvlW w v symL Try.prog HH (n + 3)).2) 22 [.s (.one (.ptr 0 0 0)), .s (.one (.v (.int .i64 9)))] [.own 2 true [[.fr 1 m26.1.1, .v (.int .i64 m26.1.2.1)]]] outs22 mouts22 fun y29 m30 =>
        letIn (IntKind.wrap .i64 (n28 + y29.1) : Int) fun n31 =>
        letIn (IntKind.wrap .i64 (v17 + 1) : Int) fun n32 =>
        callT (w (lvlW w v symL Try.prog HH (n + 3)).2) 23 [.s (.one (.ptr 0 0 0)), .s (.one (.v (.int .i64 n32)))] [.own 2 true [[.fr 1 m30.1.1, .v (.int .i64 m30.1.2.1)]]] outs23 mouts23 fun y33 m34 =>
        letIn (IntKind.wrap .i64 (n31 + y33.1) : Int) fun n35 =>
        callT (w (lvlW w v symL Try.prog HH (n + 2)).2) 22 [.s (.one (.ptr 0 0 0)), .s (.one (.v (.int .i64 4)))] [.own 2 true [[.fr 1 m34.1.1, .v (.int .i64 m34.1.2.1)]]] outs22 mouts22 fun y36 m37 =>
        letIn (IntKind.wrap .i64 (y36.1 * 32768) : Int) fun n38 =>
        letIn (IntKind.wrap .i64 (c22 + n38) : Int) fun n39 =>
        callT (w (lvlW w v symL Try.prog HH (n + 2)).2) 22 [.s (.one (.ptr 0 0 0)), .s (.one (.v (.int .i64 9)))] [.own 2 true [[.fr 1 m37.1.1, .v (.int .i64 m37.1.2.1)]]] outs22 mouts22 fun y40 m41 =>
        letIn (IntKind.wrap .i64 (n39 + y40.1) : Int) fun n42 =>
        letIn (IntKind.wrap .i64 (v17 + 1) : Int) fun n43 =>
        callT (w (lvlW w v symL Try.prog HH (n + 2)).2) 23 [.s (.one (.ptr 0 0 0)), .s (.one (.v (.int .i64 n43)))] [.own 2 true [[.fr 1 m41.1.1, .v (.int .i64 m41.1.2.1)]]] outs23 mouts23 fun y44 m45 =>
        letIn (IntKind.wrap .i64 (n42 + y44.1) : Int) fun n46 =>
        callT (w (lvlW w v symL Try.prog HH (n + 1)).2) 22 [.s (.one (.ptr 0 0 0)), .s (.one (.v (.int .i64 4)))] [.own 2 true [[.fr 1 m45.1.1, .v (.int .i64 m45.1.2.1)]]] outs22 mouts22 fun y47 m48 =>
        letIn (IntKind.wrap .i64 (y47.1 * 32768) : Int) fun n49 =>
        letIn (IntKind.wrap .i64 (c23 + n49) : Int) fun n50 =>
        callT (w (lvlW w v symL Try.prog HH (n + 1)).2) 22 [.s (.one (.ptr 0 0 0)), .s (.one (.v (.int .i64 9)))] [.own 2 true [[.fr 1 m48.1.1, .v (.int .i64 m48.1.2.1)]]] outs22 mouts22 fun y51 m52 =>
        letIn (IntKind.wrap .i64 (n50 + y51.1) : Int) fun n53 =>
        letIn (IntKind.wrap .i64 (v17 + 1) : Int) fun n54 =>
        callT (w (lvlW w v symL Try.prog HH (n + 1)).2) 23 [.s (.one (.ptr 0 0 0)), .s (.one (.v (.int .i64 n54)))] [.own 2 true [[.fr 1 m52.1.1, .v (.int .i64 m52.1.2.1)]]] outs23 mouts23 fun y55 m56 =>
        letIn (IntKind.wrap .i64 (n53 + y55.1) : Int) fun n57 =>
        some (.exit 2, encSt S12_2_e2 ((v17, (), (), (), v18, (), ()), ((m56.1.1, m56.1.2.1, ()), (c21, c22, c23, ()), es24, (n31, n35, n42, n46, n53, n57, ()), ())))) fun p58 =>
      bif sameEx (.exit 2) p58.1 then (decSt S12_2_e2 p58.2 fun x59 =>
        bif decide ((x59.2.2.2.1.length + 1) * 48 ≤ 140737488355328) then (
          letIn (IntKind.wrap .i64 (x59.1.2.2.2.2.1 - 1) : Int) fun n60 =>
          v (lvlW w v symL Try.prog HH (n + 4)).1 ⟨12, 0, true⟩ 0 (loopOf Try.f12 0) (encSt S12_0 ((x59.1.1, (), (), (), n60, ()), ((x59.2.1.1, x59.2.1.2.1, ()), (x59.2.2.1.1, x59.2.2.1.2.1, x59.2.2.1.2.2.1, ()), (x59.2.2.2.1 ++ ([[.v (.int .i64 x59.2.2.2.2.1.1), .v (.int .i64 x59.2.2.2.2.1.2.1), .v (.int .i64 x59.2.2.2.2.1.2.2.1), .v (.int .i64 x59.2.2.2.2.1.2.2.2.1), .v (.int .i64 x59.2.2.2.2.1.2.2.2.2.1), .v (.int .i64 x59.2.2.2.2.1.2.2.2.2.2.1)]] : List (List D1))), ()))))
        else
        none)
      else
      none)
    else
    some (.exit 0, encSt S12_0_e0 (((), ()), (es24, ()))) := by kernel_rfl
theorem loop12_0 (n : Nat) (v17 : Int) (v18 : Int) (c19 : List (List D1)) (c20 : Int) (c21 : Int) (c22 : Int) (c23 : Int) (es24 : List (List D1)) : (lvl Try.prog HH (n + 5)).1 ⟨12, 0, true⟩ 0 (loopOf Try.f12 0) (encSt S12_0 ((v17, (), (), (), v18, ()), ((c19, c20, ()), (c21, c22, c23, ()), es24, ()))) =
    bif decide (v18 > 0) then (
      Option.bind (
        callT (lvl Try.prog HH (n + 3)).2 22 [.s (.one (.ptr 0 0 0)), .s (.one (.v (.int .i64 4)))] [.own 2 true [[.fr 1 c19, .v (.int .i64 c20)]]] outs22 mouts22 fun y25 m26 =>
        letIn (IntKind.wrap .i64 (y25.1 * 32768) : Int) fun n27 =>
        letIn (IntKind.wrap .i64 (c21 + n27) : Int) fun n28 =>
        callT (lvl Try.prog HH (n + 3)).2 22 [.s (.one (.ptr 0 0 0)), .s (.one (.v (.int .i64 9)))] [.own 2 true [[.fr 1 m26.1.1, .v (.int .i64 m26.1.2.1)]]] outs22 mouts22 fun y29 m30 =>
        letIn (IntKind.wrap .i64 (n28 + y29.1) : Int) fun n31 =>
        letIn (IntKind.wrap .i64 (v17 + 1) : Int) fun n32 =>
        callT (lvl Try.prog HH (n + 3)).2 23 [.s (.one (.ptr 0 0 0)), .s (.one (.v (.int .i64 n32)))] [.own 2 true [[.fr 1 m30.1.1, .v (.int .i64 m30.1.2.1)]]] outs23 mouts23 fun y33 m34 =>
        letIn (IntKind.wrap .i64 (n31 + y33.1) : Int) fun n35 =>
        callT (lvl Try.prog HH (n + 2)).2 22 [.s (.one (.ptr 0 0 0)), .s (.one (.v (.int .i64 4)))] [.own 2 true [[.fr 1 m34.1.1, .v (.int .i64 m34.1.2.1)]]] outs22 mouts22 fun y36 m37 =>
        letIn (IntKind.wrap .i64 (y36.1 * 32768) : Int) fun n38 =>
        letIn (IntKind.wrap .i64 (c22 + n38) : Int) fun n39 =>
        callT (lvl Try.prog HH (n + 2)).2 22 [.s (.one (.ptr 0 0 0)), .s (.one (.v (.int .i64 9)))] [.own 2 true [[.fr 1 m37.1.1, .v (.int .i64 m37.1.2.1)]]] outs22 mouts22 fun y40 m41 =>
        letIn (IntKind.wrap .i64 (n39 + y40.1) : Int) fun n42 =>
        letIn (IntKind.wrap .i64 (v17 + 1) : Int) fun n43 =>
        callT (lvl Try.prog HH (n + 2)).2 23 [.s (.one (.ptr 0 0 0)), .s (.one (.v (.int .i64 n43)))] [.own 2 true [[.fr 1 m41.1.1, .v (.int .i64 m41.1.2.1)]]] outs23 mouts23 fun y44 m45 =>
        letIn (IntKind.wrap .i64 (n42 + y44.1) : Int) fun n46 =>
        callT (lvl Try.prog HH (n + 1)).2 22 [.s (.one (.ptr 0 0 0)), .s (.one (.v (.int .i64 4)))] [.own 2 true [[.fr 1 m45.1.1, .v (.int .i64 m45.1.2.1)]]] outs22 mouts22 fun y47 m48 =>
        letIn (IntKind.wrap .i64 (y47.1 * 32768) : Int) fun n49 =>
        letIn (IntKind.wrap .i64 (c23 + n49) : Int) fun n50 =>
        callT (lvl Try.prog HH (n + 1)).2 22 [.s (.one (.ptr 0 0 0)), .s (.one (.v (.int .i64 9)))] [.own 2 true [[.fr 1 m48.1.1, .v (.int .i64 m48.1.2.1)]]] outs22 mouts22 fun y51 m52 =>
        letIn (IntKind.wrap .i64 (n50 + y51.1) : Int) fun n53 =>
        letIn (IntKind.wrap .i64 (v17 + 1) : Int) fun n54 =>
        callT (lvl Try.prog HH (n + 1)).2 23 [.s (.one (.ptr 0 0 0)), .s (.one (.v (.int .i64 n54)))] [.own 2 true [[.fr 1 m52.1.1, .v (.int .i64 m52.1.2.1)]]] outs23 mouts23 fun y55 m56 =>
        letIn (IntKind.wrap .i64 (n53 + y55.1) : Int) fun n57 =>
        some (.exit 2, encSt S12_2_e2 ((v17, (), (), (), v18, (), ()), ((m56.1.1, m56.1.2.1, ()), (c21, c22, c23, ()), es24, (n31, n35, n42, n46, n53, n57, ()), ())))) fun p58 =>
      bif sameEx (.exit 2) p58.1 then (decSt S12_2_e2 p58.2 fun x59 =>
        bif decide ((x59.2.2.2.1.length + 1) * 48 ≤ 140737488355328) then (
          letIn (IntKind.wrap .i64 (x59.1.2.2.2.2.1 - 1) : Int) fun n60 =>
          (lvl Try.prog HH (n + 4)).1 ⟨12, 0, true⟩ 0 (loopOf Try.f12 0) (encSt S12_0 ((x59.1.1, (), (), (), n60, ()), ((x59.2.1.1, x59.2.1.2.1, ()), (x59.2.2.1.1, x59.2.2.1.2.1, x59.2.2.1.2.2.1, ()), (x59.2.2.2.1 ++ ([[.v (.int .i64 x59.2.2.2.2.1.1), .v (.int .i64 x59.2.2.2.2.1.2.1), .v (.int .i64 x59.2.2.2.2.1.2.2.1), .v (.int .i64 x59.2.2.2.2.1.2.2.2.1), .v (.int .i64 x59.2.2.2.2.1.2.2.2.2.1), .v (.int .i64 x59.2.2.2.2.1.2.2.2.2.2.1)]] : List (List D1))), ()))))
        else
        none)
      else
      none)
    else
    some (.exit 0, encSt S12_0_e0 (((), ()), (es24, ()))) := by
  have h := loop12_0_w (fun x => x) (fun x => x) n v17 v18 c19 c20 c21 c22 c23 es24
  rw [lvlW_id] at h
  exact h

theorem fn12_w (w : CallF → CallF) (v : LoopF → LoopF) (n : Nat) (l1 : List (List D1)) (width2 : Int) : (lvlW w v symL Try.prog HH (n + 1)).2 12 [.s (.one (.fr 1 l1)), .s (.one (.v (.int .i64 width2)))] [] =
    callT (w (lvlW w v symL Try.prog HH (n + 0)).2) 21 [.s (.one (.fr 1 l1))] [] outs21 mouts21 fun y3 m4 =>
    callT (w (lvlW w v symL Try.prog HH (n + 0)).2) 22 [.s (.one (.ptr 0 0 0)), .s (.one (.v (.int .i64 6)))] [.own 2 true [[.fr 1 m4.1.1, .v (.int .i64 m4.1.2.1)]]] outs22 mouts22 fun y5 m6 =>
    letIn (IntKind.wrap .i64 (y5.1 * 32768) : Int) fun n7 =>
    callT (w (lvlW w v symL Try.prog HH (n + 0)).2) 22 [.s (.one (.ptr 0 0 0)), .s (.one (.v (.int .i64 6)))] [.own 2 true [[.fr 1 m6.1.1, .v (.int .i64 m6.1.2.1)]]] outs22 mouts22 fun y8 m9 =>
    letIn (IntKind.wrap .i64 (y8.1 * 32768) : Int) fun n10 =>
    callT (w (lvlW w v symL Try.prog HH (n + 0)).2) 22 [.s (.one (.ptr 0 0 0)), .s (.one (.v (.int .i64 3)))] [.own 2 true [[.fr 1 m9.1.1, .v (.int .i64 m9.1.2.1)]]] outs22 mouts22 fun y11 m12 =>
    letIn (IntKind.wrap .i64 (y11.1 * 32768) : Int) fun n13 =>
    callT (w (lvlW w v symL Try.prog HH (n + 0)).2) 23 [.s (.one (.ptr 0 0 0)), .s (.one (.v (.int .i64 5)))] [.own 2 true [[.fr 1 m12.1.1, .v (.int .i64 m12.1.2.1)]]] outs23 mouts23 fun y14 m15 =>
    letIn (IntKind.wrap .i64 (1 + y14.1) : Int) fun n16 =>
    (v (lvlW w v symL Try.prog HH (n + 0)).1 ⟨12, 0, true⟩ 0 (loopOf Try.f12 0) (encSt S12_0 ((width2, (), (), (), n16, ()), ((m15.1.1, m15.1.2.1, ()), (n7, n10, n13, ()), [], ())))).bind fun p61 =>
    bif sameEx (.exit 0) p61.1 then (decSt S12_0_e0 p61.2 fun x62 =>
      some (.s (.one (.fs 0)), [.own 6 true x62.2.1]))
    else
    none := by kernel_rfl
theorem fn12 (n : Nat) (l1 : List (List D1)) (width2 : Int) : (lvl Try.prog HH (n + 1)).2 12 [.s (.one (.fr 1 l1)), .s (.one (.v (.int .i64 width2)))] [] =
    callT (lvl Try.prog HH (n + 0)).2 21 [.s (.one (.fr 1 l1))] [] outs21 mouts21 fun y3 m4 =>
    callT (lvl Try.prog HH (n + 0)).2 22 [.s (.one (.ptr 0 0 0)), .s (.one (.v (.int .i64 6)))] [.own 2 true [[.fr 1 m4.1.1, .v (.int .i64 m4.1.2.1)]]] outs22 mouts22 fun y5 m6 =>
    letIn (IntKind.wrap .i64 (y5.1 * 32768) : Int) fun n7 =>
    callT (lvl Try.prog HH (n + 0)).2 22 [.s (.one (.ptr 0 0 0)), .s (.one (.v (.int .i64 6)))] [.own 2 true [[.fr 1 m6.1.1, .v (.int .i64 m6.1.2.1)]]] outs22 mouts22 fun y8 m9 =>
    letIn (IntKind.wrap .i64 (y8.1 * 32768) : Int) fun n10 =>
    callT (lvl Try.prog HH (n + 0)).2 22 [.s (.one (.ptr 0 0 0)), .s (.one (.v (.int .i64 3)))] [.own 2 true [[.fr 1 m9.1.1, .v (.int .i64 m9.1.2.1)]]] outs22 mouts22 fun y11 m12 =>
    letIn (IntKind.wrap .i64 (y11.1 * 32768) : Int) fun n13 =>
    callT (lvl Try.prog HH (n + 0)).2 23 [.s (.one (.ptr 0 0 0)), .s (.one (.v (.int .i64 5)))] [.own 2 true [[.fr 1 m12.1.1, .v (.int .i64 m12.1.2.1)]]] outs23 mouts23 fun y14 m15 =>
    letIn (IntKind.wrap .i64 (1 + y14.1) : Int) fun n16 =>
    ((lvl Try.prog HH (n + 0)).1 ⟨12, 0, true⟩ 0 (loopOf Try.f12 0) (encSt S12_0 ((width2, (), (), (), n16, ()), ((m15.1.1, m15.1.2.1, ()), (n7, n10, n13, ()), [], ())))).bind fun p61 =>
    bif sameEx (.exit 0) p61.1 then (decSt S12_0_e0 p61.2 fun x62 =>
      some (.s (.one (.fs 0)), [.own 6 true x62.2.1]))
    else
    none := by
  have h := fn12_w (fun x => x) (fun x => x) n l1 width2
  rw [lvlW_id] at h
  exact h

end Go.Proofs.Ytceaambiagobbaa.Am
