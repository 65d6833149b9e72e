/- PRINTED by amprint.py: what the abstract machine answers, function by function. -/
import Derived.Test.YtfpdjpleplhcgaaH
import Derived.KernelRfl
set_option linter.unusedVariables false
set_option maxRecDepth 100000
namespace Go.Proofs.Ytfpdjpleplhcgaa.Am
open Go Go.Proofs

/-! armplan/armplanmake.Weights -/
theorem loop35_0 (n : Nat) (v5 : Int) (v6 : Int) (c7 : List (List D1)) (c8 : Int) (es9 : List (List D1)) : (lvl Try.prog HH (n + 1)).1 ⟨35, 0, true⟩ 0 (loopOf Try.f35 0) (encSt S35_0 ((v5, (), (), v6, ()), ((c7, c8, ()), es9, ()))) =
    bif decide (v6 < v5) then (
      callT (lvl Try.prog HH (n + 0)).2 93 [.s (.one (.ptr 0 0 0)), .s (.one (.v (.int .i64 9)))] [.own 2 true [[.fr 1 c7, .v (.int .i64 c8)]]] outs93 mouts93 fun y10 m11 =>
      bif decide ((es9.length + 1) * 8 ≤ 140737488355328) then (
        letIn (IntKind.wrap .i64 (v6 + 1) : Int) fun n12 =>
        (lvl Try.prog HH (n + 0)).1 ⟨35, 0, true⟩ 0 (loopOf Try.f35 0) (encSt S35_0 ((v5, (), (), n12, ()), ((m11.1.1, m11.1.2.1, ()), (es9 ++ ([[.v (.int .i64 y10.1)]] : List (List D1))), ()))))
      else
      none)
    else
    some (.exit 0, encSt S35_0_e0 ((v5, (), (), ()), ((c7, c8, ()), es9, ()))) := by kernel_rfl

theorem fn35 (n : Nat) (n1 : Int) (l2 : List (List D1)) : (lvl Try.prog HH (n + 1)).2 35 [.s (.one (.v (.int .i64 n1))), .s (.one (.fr 1 l2))] [] =
    callT (lvl Try.prog HH (n + 0)).2 90 [.s (.one (.fr 1 l2))] [] outs90 mouts90 fun y3 m4 =>
    ((lvl Try.prog HH (n + 0)).1 ⟨35, 0, true⟩ 0 (loopOf Try.f35 0) (encSt S35_0 ((n1, (), (), 0, ()), ((m4.1.1, m4.1.2.1, ()), [], ())))).bind fun p13 =>
    bif sameEx (.exit 0) p13.1 then (decSt S35_0_e0 p13.2 fun x14 =>
      bif decide (x14.1.1 > 0) then (
        callT (lvl Try.prog HH (n + 0)).2 93 [.s (.one (.ptr 0 0 0)), .s (.one (.v (.int .i64 x14.1.1)))] [.own 2 true [[.fr 1 x14.2.1.1, .v (.int .i64 x14.2.1.2.1)]]] outs93 mouts93 fun y15 m16 =>
        bif decide (0 ≤ y15.1) then (
          (nth x14.2.2.1 y15.1.toNat).bind fun cs17 =>
          (nth x14.2.2.1 y15.1.toNat).bind fun cs18 =>
          (nth cs18 0).bind fun d19 =>
          (asInt? .i64 d19).bind fun n20 =>
          letIn (IntKind.wrap .i64 (n20 + 1) : Int) fun n21 =>
          bif decide (0 ≤ y15.1) then (
            (nth x14.2.2.1 y15.1.toNat).bind fun cs22 =>
            (nth x14.2.2.1 y15.1.toNat).bind fun cs23 =>
            (setCells cs23 0 [.v (.int .i64 n21)]).bind fun cs24 =>
            some (.s (.one (.fr 1 (upd x14.2.2.1 y15.1.toNat cs24))), []))
          else
          none)
        else
        none)
      else
      some (.s (.one (.fr 1 x14.2.2.1)), []))
    else
    none := by kernel_rfl

/-! armplan/armplanmake.Part -/
theorem fn65 (n : Nat) (a1 : Int) (a2 : Int) (m3 : Int) (n4 : Int) : (lvl Try.prog HH (n + 1)).2 65 [.s (.agg true [.v (.int .i64 a1), .v (.int .i64 a2)]), .s (.one (.v (.int .i64 m3))), .s (.one (.v (.int .i64 n4)))] [] =
    letIn (IntKind.wrap .i64 (a2 - a1) : Int) fun n5 =>
    letIn (IntKind.wrap .i64 (n5 + 1) : Int) fun n6 =>
    callT (lvl Try.prog HH (n + 0)).2 41 [.s (.one (.v (.int .i64 m3))), .s (.one (.v (.int .i64 n6)))] [] outs41 mouts41 fun y7 m8 =>
    letIn (IntKind.wrap .i64 (a1 + y7.1) : Int) fun n9 =>
    letIn (IntKind.wrap .i64 ((BitVec.ofInt 64 n4 &&& BitVec.ofInt 64 1).toNat : Nat) : Int) fun n10 =>
    bif n10 == 0 then (
      some (.s (.agg true [.v (.int .i64 n9), .v (.int .i64 n9)]), []))
    else
    letIn (Int.fdiv n4 2 : Int) fun n11 =>
    callT (lvl Try.prog HH (n + 0)).2 41 [.s (.one (.v (.int .i64 n11))), .s (.one (.v (.int .i64 n6)))] [] outs41 mouts41 fun y12 m13 =>
    letIn (IntKind.wrap .i64 (a1 + y12.1) : Int) fun n14 =>
    letIn (if n14 < n9 then n14 else n9 : Int) fun n15 =>
    letIn (if n14 > n9 then n14 else n9 : Int) fun n16 =>
    some (.s (.agg true [.v (.int .i64 n15), .v (.int .i64 n16)]), []) := by kernel_rfl

/-! armplan/armplanmake.Chosen -/
theorem loop39_0 (n : Nat) (v5 : List (List D1)) (v6 : Int) (c7 : List (List D1)) (c8 : Int) (es9 : List (List D1)) : (lvl Try.prog HH (n + 5)).1 ⟨39, 0, true⟩ 0 (loopOf Try.f39 0) (encSt S39_0 ((v5, (), (), v6, ()), ((c7, c8, ()), es9, ()))) =
    bif decide (v6 < (((v5.length : Nat) : Int))) then (
      Option.bind (
        bif decide (0 ≤ v6) then (
          (nth v5 v6.toNat).bind fun cs10 =>
          bif Nat.beq (((cs10.drop 0).drop 0).take 2).length 2 then (
            decCts [.int .i64, .int .i64] (((cs10.drop 0).drop 0).take 2) fun c11 =>
            callT (lvl Try.prog HH (n + 3)).2 93 [.s (.one (.ptr 0 0 0)), .s (.one (.v (.int .i64 1073741824)))] [.own 2 true [[.fr 1 c7, .v (.int .i64 c8)]]] outs93 mouts93 fun y12 m13 =>
            callT (lvl Try.prog HH (n + 3)).2 65 [.s (.agg true [.v (.int .i64 c11.1), .v (.int .i64 c11.2.1)]), .s (.one (.v (.int .i64 y12.1))), .s (.one (.v (.int .i64 0)))] [] outs65 mouts65 fun y14 m15 =>
            bif decide (0 ≤ v6) then (
              (nth v5 v6.toNat).bind fun cs16 =>
              bif Nat.beq (((cs16.drop 2).drop 0).take 2).length 2 then (
                decCts [.int .i64, .int .i64] (((cs16.drop 2).drop 0).take 2) fun c17 =>
                callT (lvl Try.prog HH (n + 2)).2 93 [.s (.one (.ptr 0 0 0)), .s (.one (.v (.int .i64 1073741824)))] [.own 2 true [[.fr 1 m13.1.1, .v (.int .i64 m13.1.2.1)]]] outs93 mouts93 fun y18 m19 =>
                callT (lvl Try.prog HH (n + 2)).2 65 [.s (.agg true [.v (.int .i64 c17.1), .v (.int .i64 c17.2.1)]), .s (.one (.v (.int .i64 y18.1))), .s (.one (.v (.int .i64 0)))] [] outs65 mouts65 fun y20 m21 =>
                bif decide (0 ≤ v6) then (
                  (nth v5 v6.toNat).bind fun cs22 =>
                  bif Nat.beq (((cs22.drop 4).drop 0).take 2).length 2 then (
                    decCts [.int .i64, .int .i64] (((cs22.drop 4).drop 0).take 2) fun c23 =>
                    callT (lvl Try.prog HH (n + 1)).2 93 [.s (.one (.ptr 0 0 0)), .s (.one (.v (.int .i64 1073741824)))] [.own 2 true [[.fr 1 m19.1.1, .v (.int .i64 m19.1.2.1)]]] outs93 mouts93 fun y24 m25 =>
                    callT (lvl Try.prog HH (n + 1)).2 65 [.s (.agg true [.v (.int .i64 c23.1), .v (.int .i64 c23.2.1)]), .s (.one (.v (.int .i64 y24.1))), .s (.one (.v (.int .i64 0)))] [] outs65 mouts65 fun y26 m27 =>
                    some (.exit 2, encSt S39_2_e2 ((v5, (), (), v6, (), ()), ((m25.1.1, m25.1.2.1, ()), es9, (y14.1.1, y14.1.2.1, y20.1.1, y20.1.2.1, y26.1.1, y26.1.2.1, ()), ()))))
                  else
                  none)
                else
                none)
              else
              none)
            else
            none)
          else
          none)
        else
        none) fun p28 =>
      bif sameEx (.exit 2) p28.1 then (decSt S39_2_e2 p28.2 fun x29 =>
        bif decide ((x29.2.2.1.length + 1) * 48 ≤ 140737488355328) then (
          letIn (IntKind.wrap .i64 (x29.1.2.2.2.1 + 1) : Int) fun n30 =>
          (lvl Try.prog HH (n + 4)).1 ⟨39, 0, true⟩ 0 (loopOf Try.f39 0) (encSt S39_0 ((x29.1.1, (), (), n30, ()), ((x29.2.1.1, x29.2.1.2.1, ()), (x29.2.2.1 ++ ([[.v (.int .i64 x29.2.2.2.1.1), .v (.int .i64 x29.2.2.2.1.2.1), .v (.int .i64 x29.2.2.2.1.2.2.1), .v (.int .i64 x29.2.2.2.1.2.2.2.1), .v (.int .i64 x29.2.2.2.1.2.2.2.2.1), .v (.int .i64 x29.2.2.2.1.2.2.2.2.2.1)]] : List (List D1))), ()))))
        else
        none)
      else
      none)
    else
    some (.exit 0, encSt S39_0_e0 (((), ()), (es9, ()))) := by kernel_rfl

theorem fn39 (n : Nat) (l1 : List (List D1)) (m2 : List (List D1)) : (lvl Try.prog HH (n + 1)).2 39 [.s (.one (.fr 6 l1)), .s (.one (.fr 1 m2))] [] =
    callT (lvl Try.prog HH (n + 0)).2 90 [.s (.one (.fr 1 m2))] [] outs90 mouts90 fun y3 m4 =>
    ((lvl Try.prog HH (n + 0)).1 ⟨39, 0, true⟩ 0 (loopOf Try.f39 0) (encSt S39_0 ((l1, (), (), 0, ()), ((m4.1.1, m4.1.2.1, ()), [], ())))).bind fun p31 =>
    bif sameEx (.exit 0) p31.1 then (decSt S39_0_e0 p31.2 fun x32 =>
      some (.s (.one (.fr 6 x32.2.1)), []))
    else
    none := by kernel_rfl

/-! armplan/support.fits -/
theorem fn119 (n : Nat) (v1 : Int) (v2 : Int) (v3 : Int) : (lvl Try.prog HH (n + 5)).2 119 [.s (.agg true [.v (.int .i64 v1), .v (.int .i64 v2), .v (.int .i64 v3)])] [] =
    Option.bind (
      bif decide (v1 < (-16384)) then (
        some (.ret, encSt S119_0_r ((false, ()), ())))
      else
      bif decide (v1 > 16384) then (
        some (.ret, encSt S119_0_r ((false, ()), ())))
      else
      bif decide (v2 < (-16384)) then (
        some (.ret, encSt S119_0_r ((false, ()), ())))
      else
      bif decide (v2 > 16384) then (
        some (.ret, encSt S119_0_r ((false, ()), ())))
      else
      bif decide (v3 < (-16384)) then (
        some (.ret, encSt S119_0_r ((false, ()), ())))
      else
      bif decide (v3 > 16384) then (
        some (.ret, encSt S119_0_r ((false, ()), ())))
      else
      some (.exit 0, encSt S119_0_e0 ((), ()))) fun p4 =>
    bif sameEx (.ret) p4.1 then (decSt S119_0_r p4.2 fun x5 =>
      some (.s (.one (.v (.bool x5.1.1))), []))
    else
    bif sameEx (.exit 0) p4.1 then (decSt S119_0_e0 p4.2 fun x6 =>
      some (.s (.one (.v (.bool true))), []))
    else
    none := by kernel_rfl

/-! armplan/support.Usable -/
theorem fn75 (n : Nat) (n1 : Int) (n2 : Int) (n3 : Int) : (lvl Try.prog HH (n + 1)).2 75 [.s (.agg true [.v (.int .i64 n1), .v (.int .i64 n2), .v (.int .i64 n3)])] [] =
    callT (lvl Try.prog HH (n + 0)).2 119 [.s (.agg true [.v (.int .i64 n1), .v (.int .i64 n2), .v (.int .i64 n3)])] [] outs119 mouts119 fun y4 m5 =>
    bif y4.1 then (
      letIn (!((n1 == 0) && ((n2 == 0) && ((n3 == 0) && true))) : Bool) fun b6 =>
      some (.s (.one (.v (.bool b6))), []))
    else
    some (.s (.one (.v (.bool false))), []) := by kernel_rfl

/-! armplan/shape.reaches -/
theorem fn161 (n : Nat) (a1 : Int) (a2 : Int) : (lvl Try.prog HH (n + 1)).2 161 [.s (.agg true [.v (.int .i64 a1), .v (.int .i64 a2)])] [] =
    bif decide (a1 ≥ (-268435456)) then (
      bif decide (a1 ≤ a2) then (
        some (.s (.one (.v (.bool (decide (a2 ≤ 268435456))))), []))
      else
      some (.s (.one (.v (.bool false))), []))
    else
    some (.s (.one (.v (.bool false))), []) := by kernel_rfl

/-! armplan/shape.Placed -/
theorem loop99_0 (n : Nat) (v2 : List (List D1)) (v3 : List (List D1)) (v4 : Int) (v5 : Int) : (lvl Try.prog HH (n + 1)).1 ⟨99, 0, true⟩ 0 (loopOf Try.f99 0) (encSt S99_0 ((v2, v3, v4, v5, ()), ())) =
    bif decide (v5 < v4) then (
      bif decide (0 ≤ v5) then (
        (nth v3 v5.toNat).bind fun cs6 =>
        bif Nat.beq ((cs6.drop 0).take 6).length 6 then (
          decCts [.int .i64, .int .i64, .int .i64, .int .i64, .int .i64, .int .i64] ((cs6.drop 0).take 6) fun c7 =>
          callT (lvl Try.prog HH (n + 0)).2 161 [.s (.agg true [.v (.int .i64 c7.1), .v (.int .i64 c7.2.1)])] [] outs161 mouts161 fun y8 m9 =>
          bif !y8.1 then (
            some (.ret, encSt S99_0_r ((false, ()), ())))
          else
          callT (lvl Try.prog HH (n + 0)).2 161 [.s (.agg true [.v (.int .i64 c7.2.2.1), .v (.int .i64 c7.2.2.2.1)])] [] outs161 mouts161 fun y10 m11 =>
          bif !y10.1 then (
            some (.ret, encSt S99_0_r ((false, ()), ())))
          else
          callT (lvl Try.prog HH (n + 0)).2 161 [.s (.agg true [.v (.int .i64 c7.2.2.2.2.1), .v (.int .i64 c7.2.2.2.2.2.1)])] [] outs161 mouts161 fun y12 m13 =>
          bif !y12.1 then (
            some (.ret, encSt S99_0_r ((false, ()), ())))
          else
          letIn (IntKind.wrap .i64 (v5 + 1) : Int) fun n14 =>
          (lvl Try.prog HH (n + 0)).1 ⟨99, 0, true⟩ 0 (loopOf Try.f99 0) (encSt S99_0 ((v2, v3, v4, n14, ()), ())))
        else
        none)
      else
      none)
    else
    some (.exit 0, encSt S99_0_e0 ((v2, ()), ())) := by kernel_rfl

theorem fn99 (n : Nat) (l1 : List (List D1)) : (lvl Try.prog HH (n + 1)).2 99 [.s (.one (.fr 6 l1))] [] =
    ((lvl Try.prog HH (n + 0)).1 ⟨99, 0, true⟩ 0 (loopOf Try.f99 0) (encSt S99_0 ((l1, l1, (((l1.length : Nat) : Int)), 0, ()), ()))).bind fun p15 =>
    bif sameEx (.ret) p15.1 then (decSt S99_0_r p15.2 fun x16 =>
      some (.s (.one (.v (.bool x16.1.1))), []))
    else
    bif sameEx (.exit 0) p15.1 then (decSt S99_0_e0 p15.2 fun x17 =>
      bif decide ((((x17.1.1.length : Nat) : Int)) ≥ 1) then (
        some (.s (.one (.v (.bool (decide ((((x17.1.1.length : Nat) : Int)) ≤ 8))))), []))
      else
      some (.s (.one (.v (.bool false))), []))
    else
    none := by kernel_rfl

end Go.Proofs.Ytfpdjpleplhcgaa.Am
