/- PRINTED by amprint.py: what the abstract machine answers, function by function. -/
import Derived.Test.YtfpdjpleplhcgaaH
import Derived.KernelRfl
set_option linter.unusedVariables false
set_option maxRecDepth 100000
namespace Go.Proofs.Ytfpdjpleplhcgaa.Am
open Go Go.Proofs

/-! armplan/interval.Mid -/
theorem fn125 (n : Nat) (a1 : Int) (a2 : Int) : (lvl Try.prog HH (n + 1)).2 125 [.s (.agg true [.v (.int .i64 a1), .v (.int .i64 a2)])] [] =
    callT (lvl Try.prog HH (n + 0)).2 48 [.s (.agg true [.v (.int .i64 a1), .v (.int .i64 a2)])] [] outs48 mouts48 fun y3 m4 =>
    bif !y3.1 then (
      some (.s (.one (.v (.int .i64 0))), []))
    else
    letIn (IntKind.wrap .i64 (a1 + a2) : Int) fun n5 =>
    letIn (Int.fdiv n5 2 : Int) fun n6 =>
    some (.s (.one (.v (.int .i64 n6))), []) := by kernel_rfl

/-! armplan/shape.Centers -/
theorem loop133_0 (n : Nat) (v4 : List (List D1)) (v5 : Int) (v6 : Int) (es7 : List (List D1)) : (lvl Try.prog HH (n + 5)).1 ⟨133, 0, true⟩ 0 (loopOf Try.f133 0) (encSt S133_0 (((), v4, v5, v6, ()), (es7, ()))) =
    bif decide (v6 < v5) then (
      bif decide (0 ≤ v6) then (
        (nth v4 v6.toNat).bind fun cs8 =>
        bif Nat.beq ((cs8.drop 0).take 6).length 6 then (
          decCts [.int .i64, .int .i64, .int .i64, .int .i64, .int .i64, .int .i64] ((cs8.drop 0).take 6) fun c9 =>
          Option.bind (
            callT (lvl Try.prog HH (n + 3)).2 125 [.s (.agg true [.v (.int .i64 c9.1), .v (.int .i64 c9.2.1)])] [] outs125 mouts125 fun y10 m11 =>
            bif decide (0 ≤ v6) then (
              (nth es7 v6.toNat).bind fun cs12 =>
              (nth es7 v6.toNat).bind fun cs13 =>
              (setCells cs13 0 [.v (.int .i64 y10.1)]).bind fun cs14 =>
              callT (lvl Try.prog HH (n + 2)).2 125 [.s (.agg true [.v (.int .i64 c9.2.2.1), .v (.int .i64 c9.2.2.2.1)])] [] outs125 mouts125 fun y15 m16 =>
              bif decide (0 ≤ v6) then (
                (nth (upd es7 v6.toNat cs14) v6.toNat).bind fun cs17 =>
                (nth (upd es7 v6.toNat cs14) v6.toNat).bind fun cs18 =>
                (setCells cs18 1 [.v (.int .i64 y15.1)]).bind fun cs19 =>
                callT (lvl Try.prog HH (n + 1)).2 125 [.s (.agg true [.v (.int .i64 c9.2.2.2.2.1), .v (.int .i64 c9.2.2.2.2.2.1)])] [] outs125 mouts125 fun y20 m21 =>
                bif decide (0 ≤ v6) then (
                  (nth (upd (upd es7 v6.toNat cs14) v6.toNat cs19) v6.toNat).bind fun cs22 =>
                  (nth (upd (upd es7 v6.toNat cs14) v6.toNat cs19) v6.toNat).bind fun cs23 =>
                  (setCells cs23 2 [.v (.int .i64 y20.1)]).bind fun cs24 =>
                  some (.exit 2, encSt S133_2_e2 (((), v4, v5, v6, ()), ((upd (upd (upd es7 v6.toNat cs14) v6.toNat cs19) v6.toNat cs24), ()))))
                else
                none)
              else
              none)
            else
            none) fun p25 =>
          bif sameEx (.exit 2) p25.1 then (decSt S133_2_e2 p25.2 fun x26 =>
            letIn (IntKind.wrap .i64 (x26.1.2.2.2.1 + 1) : Int) fun n27 =>
            (lvl Try.prog HH (n + 4)).1 ⟨133, 0, true⟩ 0 (loopOf Try.f133 0) (encSt S133_0 (((), x26.1.2.1, x26.1.2.2.1, n27, ()), (x26.2.1, ()))))
          else
          none)
        else
        none)
      else
      none)
    else
    some (.exit 0, encSt S133_0_e0 (((), ()), (es7, ()))) := by kernel_rfl

theorem fn133 (n : Nat) (l1 : List (List D1)) : (lvl Try.prog HH (n + 1)).2 133 [.s (.one (.fr 6 l1))] [] =
    callT (lvl Try.prog HH (n + 0)).2 99 [.s (.one (.fr 6 l1))] [] outs99 mouts99 fun y2 m3 =>
    bif !y2.1 then (
      some (.s (.one (.fr 3 [])), []))
    else
    bif (decide (0 ≤ (((l1.length : Nat) : Int)))) && (decide ((((l1.length : Nat) : Int)) ≤ (((l1.length : Nat) : Int)))) && (decide ((((l1.length : Nat) : Int)) ≤ (((l1.length : Nat) : Int)))) && decide ((((l1.length : Nat) : Int)).toNat * 24 ≤ 140737488355328) then (
      ((lvl Try.prog HH (n + 0)).1 ⟨133, 0, true⟩ 0 (loopOf Try.f133 0) (encSt S133_0 (((), l1, (((l1.length : Nat) : Int)), 0, ()), ((List.replicate ((((l1.length : Nat) : Int)).toNat) [.v (.int .i64 0), .v (.int .i64 0), .v (.int .i64 0)]), ())))).bind fun p28 =>
      bif sameEx (.exit 0) p28.1 then (decSt S133_0_e0 p28.2 fun x29 =>
        some (.s (.one (.fr 3 x29.2.1)), []))
      else
      none)
    else
    none := by kernel_rfl

/-! armplan/armplanref1.Floor -/
theorem fn116 (n : Nat) (a1 : Int) (b2 : Int) : (lvl Try.prog HH (n + 1)).2 116 [.s (.one (.v (.int .i64 a1))), .s (.one (.v (.int .i64 b2)))] [] =
    bif b2 == 0 then (
      none)
    else
    letIn (IntKind.wrap .i64 (Int.tdiv a1 b2) : Int) fun n3 =>
    bif b2 == 0 then (
      none)
    else
    letIn (Int.tmod a1 b2 : Int) fun n4 =>
    bif decide (n4 < 0) then (
      letIn (IntKind.wrap .i64 (n3 - 1) : Int) fun n5 =>
      some (.s (.one (.v (.int .i64 n5))), []))
    else
    some (.s (.one (.v (.int .i64 n3))), []) := by kernel_rfl

/-! armplan/armplanref1.Mid -/
theorem fn126 (n : Nat) (a1 : Int) (a2 : Int) : (lvl Try.prog HH (n + 1)).2 126 [.s (.agg true [.v (.int .i64 a1), .v (.int .i64 a2)])] [] =
    callT (lvl Try.prog HH (n + 0)).2 103 [.s (.agg true [.v (.int .i64 a1), .v (.int .i64 a2)])] [] outs103 mouts103 fun y3 m4 =>
    bif !y3.1 then (
      some (.s (.one (.v (.int .i64 0))), []))
    else
    letIn (IntKind.wrap .i64 (a1 + a2) : Int) fun n5 =>
    callT (lvl Try.prog HH (n + 0)).2 116 [.s (.one (.v (.int .i64 n5))), .s (.one (.v (.int .i64 2)))] [] outs116 mouts116 fun y6 m7 =>
    some (.s (.one (.v (.int .i64 y6.1))), []) := by kernel_rfl

/-! armplan/armplanref10.Centers -/
theorem loop134_0 (n : Nat) (v4 : List (List D1)) (v5 : Int) (es6 : List (List D1)) : (lvl Try.prog HH (n + 1)).1 ⟨134, 0, true⟩ 0 (loopOf Try.f134 0) (encSt S134_0 ((v4, (), v5, ()), (es6, ()))) =
    bif decide (v5 < (((v4.length : Nat) : Int))) then (
      bif decide (0 ≤ v5) then (
        (nth v4 v5.toNat).bind fun cs7 =>
        bif Nat.beq (((cs7.drop 0).drop 0).take 2).length 2 then (
          decCts [.int .i64, .int .i64] (((cs7.drop 0).drop 0).take 2) fun c8 =>
          callT (lvl Try.prog HH (n + 0)).2 126 [.s (.agg true [.v (.int .i64 c8.1), .v (.int .i64 c8.2.1)])] [] outs126 mouts126 fun y9 m10 =>
          bif decide (0 ≤ v5) then (
            (nth v4 v5.toNat).bind fun cs11 =>
            bif Nat.beq (((cs11.drop 2).drop 0).take 2).length 2 then (
              decCts [.int .i64, .int .i64] (((cs11.drop 2).drop 0).take 2) fun c12 =>
              callT (lvl Try.prog HH (n + 0)).2 126 [.s (.agg true [.v (.int .i64 c12.1), .v (.int .i64 c12.2.1)])] [] outs126 mouts126 fun y13 m14 =>
              bif decide (0 ≤ v5) then (
                (nth v4 v5.toNat).bind fun cs15 =>
                bif Nat.beq (((cs15.drop 4).drop 0).take 2).length 2 then (
                  decCts [.int .i64, .int .i64] (((cs15.drop 4).drop 0).take 2) fun c16 =>
                  callT (lvl Try.prog HH (n + 0)).2 126 [.s (.agg true [.v (.int .i64 c16.1), .v (.int .i64 c16.2.1)])] [] outs126 mouts126 fun y17 m18 =>
                  bif decide ((es6.length + 1) * 24 ≤ 140737488355328) then (
                    letIn (IntKind.wrap .i64 (v5 + 1) : Int) fun n19 =>
                    (lvl Try.prog HH (n + 0)).1 ⟨134, 0, true⟩ 0 (loopOf Try.f134 0) (encSt S134_0 ((v4, (), n19, ()), ((es6 ++ ([[.v (.int .i64 y9.1), .v (.int .i64 y13.1), .v (.int .i64 y17.1)]] : List (List D1))), ()))))
                  else
                  none)
                else
                none)
              else
              none)
            else
            none)
          else
          none)
        else
        none)
      else
      none)
    else
    some (.exit 0, encSt S134_0_e0 (((), ()), (es6, ()))) := by kernel_rfl

theorem fn134 (n : Nat) (l1 : List (List D1)) : (lvl Try.prog HH (n + 1)).2 134 [.s (.one (.fr 6 l1))] [] =
    callT (lvl Try.prog HH (n + 0)).2 130 [.s (.one (.fr 6 l1))] [] outs130 mouts130 fun y2 m3 =>
    bif !y2.1 then (
      some (.s (.one (.fr 3 [])), []))
    else
    ((lvl Try.prog HH (n + 0)).1 ⟨134, 0, true⟩ 0 (loopOf Try.f134 0) (encSt S134_0 ((l1, (), 0, ()), ([], ())))).bind fun p20 =>
    bif sameEx (.exit 0) p20.1 then (decSt S134_0_e0 p20.2 fun x21 =>
      some (.s (.one (.fr 3 x21.2.1)), []))
    else
    none := by kernel_rfl

/-! armplan/armplanmake.Same[armplan/api.Vec] -/
theorem loop132_0 (n : Nat) (v3 : List (List D1)) (v4 : List (List D1)) (v5 : Int) : (lvl Try.prog HH (n + 1)).1 ⟨132, 0, true⟩ 0 (loopOf Try.f132 0) (encSt S132_0 ((v3, v4, v5, ()), ())) =
    bif decide (v5 < (((v3.length : Nat) : Int))) then (
      bif decide (0 ≤ v5) then (
        (nth v3 v5.toNat).bind fun cs6 =>
        bif Nat.beq ((cs6.drop 0).take 3).length 3 then (
          decCts [.int .i64, .int .i64, .int .i64] ((cs6.drop 0).take 3) fun c7 =>
          bif decide (0 ≤ v5) then (
            (nth v4 v5.toNat).bind fun cs8 =>
            bif Nat.beq ((cs8.drop 0).take 3).length 3 then (
              decCts [.int .i64, .int .i64, .int .i64] ((cs8.drop 0).take 3) fun c9 =>
              letIn (!((c7.1 == c9.1) && ((c7.2.1 == c9.2.1) && ((c7.2.2.1 == c9.2.2.1) && true))) : Bool) fun b10 =>
              bif b10 then (
                some (.ret, encSt S132_0_r ((false, ()), ())))
              else
              letIn (IntKind.wrap .i64 (v5 + 1) : Int) fun n11 =>
              (lvl Try.prog HH (n + 0)).1 ⟨132, 0, true⟩ 0 (loopOf Try.f132 0) (encSt S132_0 ((v3, v4, n11, ()), ())))
            else
            none)
          else
          none)
        else
        none)
      else
      none)
    else
    some (.exit 0, encSt S132_0_e0 ((), ())) := by kernel_rfl

theorem fn132 (n : Nat) (a1 : List (List D1)) (b2 : List (List D1)) : (lvl Try.prog HH (n + 1)).2 132 [.s (.one (.fr 3 a1)), .s (.one (.fr 3 b2))] [] =
    bif (((a1.length : Nat) : Int)) != (((b2.length : Nat) : Int)) then (
      some (.s (.one (.v (.bool false))), []))
    else
    ((lvl Try.prog HH (n + 0)).1 ⟨132, 0, true⟩ 0 (loopOf Try.f132 0) (encSt S132_0 ((a1, b2, 0, ()), ()))).bind fun p12 =>
    bif sameEx (.ret) p12.1 then (decSt S132_0_r p12.2 fun x13 =>
      some (.s (.one (.v (.bool x13.1.1))), []))
    else
    bif sameEx (.exit 0) p12.1 then (decSt S132_0_e0 p12.2 fun x14 =>
      some (.s (.one (.v (.bool true))), []))
    else
    none := by kernel_rfl

/-! armplan/armplanlaw10.bounds -/
theorem fn80 (n : Nat) (l1 : List (List D1)) (radius2 : Int) : (lvl Try.prog HH (n + 1)).2 80 [.s (.one (.fr 6 l1)), .s (.one (.v (.int .i64 radius2)))] [] =
    callT (lvl Try.prog HH (n + 0)).2 99 [.s (.one (.fr 6 l1))] [] outs99 mouts99 fun y3 m4 =>
    callT (lvl Try.prog HH (n + 0)).2 130 [.s (.one (.fr 6 l1))] [] outs130 mouts130 fun y5 m6 =>
    bif y3.1 == y5.1 then (
      callT (lvl Try.prog HH (n + 0)).2 42 [.s (.one (.fr 6 l1)), .s (.one (.v (.int .i64 radius2)))] [] outs42 mouts42 fun y7 m8 =>
      callT (lvl Try.prog HH (n + 0)).2 131 [.s (.one (.fr 6 l1)), .s (.one (.v (.int .i64 radius2)))] [] outs131 mouts131 fun y9 m10 =>
      letIn (((y7.1.1 == y9.1.1) && ((y7.1.2.1 == y9.1.2.1) && true)) && (((y7.1.2.2.1 == y9.1.2.2.1) && ((y7.1.2.2.2.1 == y9.1.2.2.2.1) && true)) && (((y7.1.2.2.2.2.1 == y9.1.2.2.2.2.1) && ((y7.1.2.2.2.2.2.1 == y9.1.2.2.2.2.2.1) && true)) && true)) : Bool) fun b11 =>
      bif b11 then (
        callT (lvl Try.prog HH (n + 0)).2 133 [.s (.one (.fr 6 l1))] [] outs133 mouts133 fun y12 m13 =>
        callT (lvl Try.prog HH (n + 0)).2 134 [.s (.one (.fr 6 l1))] [] outs134 mouts134 fun y14 m15 =>
        callT (lvl Try.prog HH (n + 0)).2 132 [.s (.one (.fr 3 y12.1)), .s (.one (.fr 3 y14.1))] [] outs132 mouts132 fun y16 m17 =>
        some (.s (.one (.v (.bool y16.1))), []))
      else
      some (.s (.one (.v (.bool false))), []))
    else
    some (.s (.one (.v (.bool false))), []) := by kernel_rfl

/-! armplan/armplanlaw10.ShapeBounds -/
theorem fn22 (n : Nat) (raw1 : List (List D1)) (radius2 : Int) (l3 : List (List D1)) (width4 : Int) : (lvl Try.prog HH (n + 1)).2 22 [.s (.one (.fr 6 raw1)), .s (.one (.v (.int .i64 radius2))), .s (.one (.fr 1 l3)), .s (.one (.v (.int .i64 width4)))] [] =
    callT (lvl Try.prog HH (n + 0)).2 41 [.s (.one (.v (.int .i64 width4))), .s (.one (.v (.int .i64 5000)))] [] outs41 mouts41 fun y5 m6 =>
    callT (lvl Try.prog HH (n + 0)).2 34 [.s (.one (.fr 1 l3)), .s (.one (.v (.int .i64 y5.1)))] [] outs34 mouts34 fun y7 m8 =>
    letIn (IntKind.wrap .i64 ((BitVec.ofInt 64 radius2 &&& BitVec.ofInt 64 16777215).toNat : Nat) : Int) fun n9 =>
    callT (lvl Try.prog HH (n + 0)).2 41 [.s (.one (.v (.int .i64 n9))), .s (.one (.v (.int .i64 2097152)))] [] outs41 mouts41 fun y10 m11 =>
    letIn (IntKind.wrap .i64 (y10.1 - 5) : Int) fun n12 =>
    callT (lvl Try.prog HH (n + 0)).2 36 [] [] outs36 mouts36 fun y13 m14 =>
    bif y13.1 then (
      callT (lvl Try.prog HH (n + 0)).2 80 [.s (.one (.fr 6 raw1)), .s (.one (.v (.int .i64 radius2)))] [] outs80 mouts80 fun y15 m16 =>
      bif y15.1 then (
        callT (lvl Try.prog HH (n + 0)).2 80 [.s (.one (.fr 6 m8.1)), .s (.one (.v (.int .i64 n12)))] [] outs80 mouts80 fun y17 m18 =>
        bif y17.1 then (
          bif decide ((m8.1.length + raw1.length) * 48 ≤ 140737488355328) then (
            callT (lvl Try.prog HH (n + 0)).2 80 [.s (.one (.fr 6 (m8.1 ++ raw1))), .s (.one (.v (.int .i64 n12)))] [] outs80 mouts80 fun y19 m20 =>
            some (.s (.one (.v (.bool y19.1))), []))
          else
          none)
        else
        some (.s (.one (.v (.bool false))), []))
      else
      some (.s (.one (.v (.bool false))), []))
    else
    some (.s (.one (.v (.bool false))), []) := by kernel_rfl

end Go.Proofs.Ytfpdjpleplhcgaa.Am
