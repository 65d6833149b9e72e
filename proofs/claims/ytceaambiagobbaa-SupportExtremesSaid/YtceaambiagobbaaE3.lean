/- PRINTED by amprint.py: what the abstract machine answers, function by function. -/
import Derived.Test.YtceaambiagobbaaH
import Derived.KernelRfl
set_option linter.unusedVariables false
set_option maxRecDepth 100000
namespace Go.Proofs.Ytceaambiagobbaa.Am
open Go Go.Proofs

/-! armplan/support.Greatest -/
theorem fn26 (n : Nat) (n1 : Int) (n2 : Int) (n3 : Int) (l4 : List (List D1)) : (lvl Try.prog HH (n + 1)).2 26 [.s (.agg true [.v (.int .i64 n1), .v (.int .i64 n2), .v (.int .i64 n3)]), .s (.one (.fr 6 l4))] [] =
    callT (lvl Try.prog HH (n + 0)).2 9 [.s (.agg true [.v (.int .i64 n1), .v (.int .i64 n2), .v (.int .i64 n3)])] [] outs9 mouts9 fun y5 m6 =>
    bif !y5.1 then (
      some (.tup [.one (.v (.int .i64 0)), .one (.v (.int .i64 0)), .one (.v (.bool false))], []))
    else
    callT (lvl Try.prog HH (n + 0)).2 29 [.s (.one (.fr 6 l4))] [] outs29 mouts29 fun y7 m8 =>
    bif !y7.1 then (
      some (.tup [.one (.v (.int .i64 0)), .one (.v (.int .i64 0)), .one (.v (.bool false))], []))
    else
    callT (lvl Try.prog HH (n + 0)).2 35 [.s (.agg false [.clo 38 [.ptr 0 0 0], .v (.func (.func 39) #[] #[])]), .s (.one (.fr 6 l4))] [.own 3 true [[.v (.int .i64 n1), .v (.int .i64 n2), .v (.int .i64 n3)]]] outs35 mouts35 fun y9 m10 =>
    some (.tup [.one (.v (.int .i64 y9.1)), .one (.v (.int .i64 y9.2.1)), .one (.v (.bool true))], []) := by kernel_rfl

/-! armplan/armplanref10.Greatest -/
theorem loop27_0 (n : Nat) (v9 : List (List D1)) (v10 : Int) (v11 : Int) (v12 : Int) (c13 : Int) (c14 : Int) (c15 : Int) : (lvl Try.prog HH (n + 1)).1 ⟨27, 0, true⟩ 0 (loopOf Try.f27 0) (encSt S27_0 ((v9, (), v10, v11, v12, ()), ((c13, c14, c15, ()), ()))) =
    bif decide (v12 < (((v9.length : Nat) : Int))) then (
      bif decide (0 ≤ v12) then (
        (nth v9 v12.toNat).bind fun cs16 =>
        bif Nat.beq ((cs16.drop 0).take 6).length 6 then (
          decCts [.int .i64, .int .i64, .int .i64, .int .i64, .int .i64, .int .i64] ((cs16.drop 0).take 6) fun c17 =>
          callT (lvl Try.prog HH (n + 0)).2 37 [.s (.agg true [.v (.int .i64 c13), .v (.int .i64 c14), .v (.int .i64 c15)]), .s (.agg true [.v (.int .i64 c17.1), .v (.int .i64 c17.2.1), .v (.int .i64 c17.2.2.1), .v (.int .i64 c17.2.2.2.1), .v (.int .i64 c17.2.2.2.2.1), .v (.int .i64 c17.2.2.2.2.2.1)])] [] outs37 mouts37 fun y18 m19 =>
          bif v12 == 0 then (
            letIn (IntKind.wrap .i64 (v12 + 1) : Int) fun n20 =>
            (lvl Try.prog HH (n + 0)).1 ⟨27, 0, true⟩ 0 (loopOf Try.f27 0) (encSt S27_0 ((v9, (), y18.2.1, v12, n20, ()), ((c13, c14, c15, ()), ()))))
          else
          bif decide (y18.2.1 > v10) then (
            letIn (IntKind.wrap .i64 (v12 + 1) : Int) fun n21 =>
            (lvl Try.prog HH (n + 0)).1 ⟨27, 0, true⟩ 0 (loopOf Try.f27 0) (encSt S27_0 ((v9, (), y18.2.1, v12, n21, ()), ((c13, c14, c15, ()), ()))))
          else
          letIn (IntKind.wrap .i64 (v12 + 1) : Int) fun n22 =>
          (lvl Try.prog HH (n + 0)).1 ⟨27, 0, true⟩ 0 (loopOf Try.f27 0) (encSt S27_0 ((v9, (), v10, v11, n22, ()), ((c13, c14, c15, ()), ()))))
        else
        none)
      else
      none)
    else
    some (.exit 0, encSt S27_0_e0 ((v10, v11, ()), ())) := by kernel_rfl

theorem fn27 (n : Nat) (n1 : Int) (n2 : Int) (n3 : Int) (l4 : List (List D1)) : (lvl Try.prog HH (n + 1)).2 27 [.s (.agg true [.v (.int .i64 n1), .v (.int .i64 n2), .v (.int .i64 n3)]), .s (.one (.fr 6 l4))] [] =
    callT (lvl Try.prog HH (n + 0)).2 15 [.s (.agg true [.v (.int .i64 n1), .v (.int .i64 n2), .v (.int .i64 n3)])] [] outs15 mouts15 fun y5 m6 =>
    bif !y5.1 then (
      some (.tup [.one (.v (.int .i64 0)), .one (.v (.int .i64 0)), .one (.v (.bool false))], []))
    else
    callT (lvl Try.prog HH (n + 0)).2 36 [.s (.one (.fr 6 l4))] [] outs36 mouts36 fun y7 m8 =>
    bif !y7.1 then (
      some (.tup [.one (.v (.int .i64 0)), .one (.v (.int .i64 0)), .one (.v (.bool false))], []))
    else
    ((lvl Try.prog HH (n + 0)).1 ⟨27, 0, true⟩ 0 (loopOf Try.f27 0) (encSt S27_0 ((l4, (), 0, 0, 0, ()), ((n1, n2, n3, ()), ())))).bind fun p23 =>
    bif sameEx (.exit 0) p23.1 then (decSt S27_0_e0 p23.2 fun x24 =>
      some (.tup [.one (.v (.int .i64 x24.1.1)), .one (.v (.int .i64 x24.1.2.1)), .one (.v (.bool true))], []))
    else
    none := by kernel_rfl

/-! armplan/armplanlaw13.extremes -/
theorem fn13_w (w : CallF → CallF) (v : LoopF → LoopF) (n : Nat) (n1 : Int) (n2 : Int) (n3 : Int) (l4 : List (List D1)) : (lvlW w v symL Try.prog HH (n + 1)).2 13 [.s (.agg true [.v (.int .i64 n1), .v (.int .i64 n2), .v (.int .i64 n3)]), .s (.one (.fr 6 l4))] [] =
    callT (w (lvlW w v symL Try.prog HH (n + 0)).2) 24 [.s (.agg true [.v (.int .i64 n1), .v (.int .i64 n2), .v (.int .i64 n3)]), .s (.one (.fr 6 l4))] [] outs24 mouts24 fun y5 m6 =>
    callT (w (lvlW w v symL Try.prog HH (n + 0)).2) 25 [.s (.agg true [.v (.int .i64 n1), .v (.int .i64 n2), .v (.int .i64 n3)]), .s (.one (.fr 6 l4))] [] outs25 mouts25 fun y7 m8 =>
    callT (w (lvlW w v symL Try.prog HH (n + 0)).2) 26 [.s (.agg true [.v (.int .i64 n1), .v (.int .i64 n2), .v (.int .i64 n3)]), .s (.one (.fr 6 l4))] [] outs26 mouts26 fun y9 m10 =>
    callT (w (lvlW w v symL Try.prog HH (n + 0)).2) 27 [.s (.agg true [.v (.int .i64 n1), .v (.int .i64 n2), .v (.int .i64 n3)]), .s (.one (.fr 6 l4))] [] outs27 mouts27 fun y11 m12 =>
    bif y5.1 == y7.1 then (
      bif y5.2.1 == y7.2.1 then (
        bif y5.2.2.1 == y7.2.2.1 then (
          bif y9.1 == y11.1 then (
            bif y9.2.1 == y11.2.1 then (
              some (.s (.one (.v (.bool (y9.2.2.1 == y11.2.2.1)))), []))
            else
            some (.s (.one (.v (.bool false))), []))
          else
          some (.s (.one (.v (.bool false))), []))
        else
        some (.s (.one (.v (.bool false))), []))
      else
      some (.s (.one (.v (.bool false))), []))
    else
    some (.s (.one (.v (.bool false))), []) := by kernel_rfl
theorem fn13 (n : Nat) (n1 : Int) (n2 : Int) (n3 : Int) (l4 : List (List D1)) : (lvl Try.prog HH (n + 1)).2 13 [.s (.agg true [.v (.int .i64 n1), .v (.int .i64 n2), .v (.int .i64 n3)]), .s (.one (.fr 6 l4))] [] =
    callT (lvl Try.prog HH (n + 0)).2 24 [.s (.agg true [.v (.int .i64 n1), .v (.int .i64 n2), .v (.int .i64 n3)]), .s (.one (.fr 6 l4))] [] outs24 mouts24 fun y5 m6 =>
    callT (lvl Try.prog HH (n + 0)).2 25 [.s (.agg true [.v (.int .i64 n1), .v (.int .i64 n2), .v (.int .i64 n3)]), .s (.one (.fr 6 l4))] [] outs25 mouts25 fun y7 m8 =>
    callT (lvl Try.prog HH (n + 0)).2 26 [.s (.agg true [.v (.int .i64 n1), .v (.int .i64 n2), .v (.int .i64 n3)]), .s (.one (.fr 6 l4))] [] outs26 mouts26 fun y9 m10 =>
    callT (lvl Try.prog HH (n + 0)).2 27 [.s (.agg true [.v (.int .i64 n1), .v (.int .i64 n2), .v (.int .i64 n3)]), .s (.one (.fr 6 l4))] [] outs27 mouts27 fun y11 m12 =>
    bif y5.1 == y7.1 then (
      bif y5.2.1 == y7.2.1 then (
        bif y5.2.2.1 == y7.2.2.1 then (
          bif y9.1 == y11.1 then (
            bif y9.2.1 == y11.2.1 then (
              some (.s (.one (.v (.bool (y9.2.2.1 == y11.2.2.1)))), []))
            else
            some (.s (.one (.v (.bool false))), []))
          else
          some (.s (.one (.v (.bool false))), []))
        else
        some (.s (.one (.v (.bool false))), []))
      else
      some (.s (.one (.v (.bool false))), []))
    else
    some (.s (.one (.v (.bool false))), []) := by
  have h := fn13_w (fun x => x) (fun x => x) n n1 n2 n3 l4
  rw [lvlW_id] at h
  exact h

/-! armplan/armplanlaw13.SupportExtremes -/
theorem fn5_w (w : CallF → CallF) (v : LoopF → LoopF) (n : Nat) (n1 : Int) (n2 : Int) (n3 : Int) (raw4 : List (List D1)) (a5 : Int) (b6 : Int) (c7 : Int) (l8 : List (List D1)) : (lvlW w v symL Try.prog HH (n + 1)).2 5 [.s (.agg true [.v (.int .i64 n1), .v (.int .i64 n2), .v (.int .i64 n3)]), .s (.one (.fr 6 raw4)), .s (.one (.v (.int .i64 a5))), .s (.one (.v (.int .i64 b6))), .s (.one (.v (.int .i64 c7))), .s (.one (.fr 1 l8))] [] =
    callT (w (lvlW w v symL Try.prog HH (n + 0)).2) 6 [.s (.one (.v (.int .i64 a5))), .s (.one (.v (.int .i64 b6))), .s (.one (.v (.int .i64 c7)))] [] outs6 mouts6 fun y9 m10 =>
    callT (w (lvlW w v symL Try.prog HH (n + 0)).2) 12 [.s (.one (.fr 1 l8)), .s (.one (.v (.int .i64 3000)))] [] outs12 mouts12 fun y11 m12 =>
    callT (w (lvlW w v symL Try.prog HH (n + 0)).2) 7 [] [] outs7 mouts7 fun y13 m14 =>
    bif y13.1 then (
      callT (w (lvlW w v symL Try.prog HH (n + 0)).2) 13 [.s (.agg true [.v (.int .i64 n1), .v (.int .i64 n2), .v (.int .i64 n3)]), .s (.one (.fr 6 raw4))] [] outs13 mouts13 fun y15 m16 =>
      bif y15.1 then (
        callT (w (lvlW w v symL Try.prog HH (n + 0)).2) 13 [.s (.agg true [.v (.int .i64 y9.1.1), .v (.int .i64 y9.1.2.1), .v (.int .i64 y9.1.2.2.1)]), .s (.one (.fr 6 m12.1))] [] outs13 mouts13 fun y17 m18 =>
        bif y17.1 then (
          (nth m12.1 0).bind fun cs19 =>
          (nth m12.1 0).bind fun cs20 =>
          bif Nat.beq ((cs20.drop 0).take 6).length 6 then (
            decCts [.int .i64, .int .i64, .int .i64, .int .i64, .int .i64, .int .i64] ((cs20.drop 0).take 6) fun c21 =>
            bif decide ((m12.1.length + 1) * 48 ≤ 140737488355328) then (
              callT (w (lvlW w v symL Try.prog HH (n + 0)).2) 13 [.s (.agg true [.v (.int .i64 y9.1.1), .v (.int .i64 y9.1.2.1), .v (.int .i64 y9.1.2.2.1)]), .s (.one (.fr 6 (m12.1 ++ ([[.v (.int .i64 c21.1), .v (.int .i64 c21.2.1), .v (.int .i64 c21.2.2.1), .v (.int .i64 c21.2.2.2.1), .v (.int .i64 c21.2.2.2.2.1), .v (.int .i64 c21.2.2.2.2.2.1)]] : List (List D1)))))] [] outs13 mouts13 fun y22 m23 =>
              bif y22.1 then (
                callT (w (lvlW w v symL Try.prog HH (n + 0)).2) 13 [.s (.agg true [.v (.int .i64 n1), .v (.int .i64 n2), .v (.int .i64 n3)]), .s (.one (.fr 6 m12.1))] [] outs13 mouts13 fun y24 m25 =>
                bif y24.1 then (
                  callT (w (lvlW w v symL Try.prog HH (n + 0)).2) 13 [.s (.agg true [.v (.int .i64 y9.1.1), .v (.int .i64 y9.1.2.1), .v (.int .i64 y9.1.2.2.1)]), .s (.one (.fr 6 raw4))] [] outs13 mouts13 fun y26 m27 =>
                  some (.s (.one (.v (.bool y26.1))), []))
                else
                some (.s (.one (.v (.bool false))), []))
              else
              some (.s (.one (.v (.bool false))), []))
            else
            none)
          else
          none)
        else
        some (.s (.one (.v (.bool false))), []))
      else
      some (.s (.one (.v (.bool false))), []))
    else
    some (.s (.one (.v (.bool false))), []) := by kernel_rfl
theorem fn5 (n : Nat) (n1 : Int) (n2 : Int) (n3 : Int) (raw4 : List (List D1)) (a5 : Int) (b6 : Int) (c7 : Int) (l8 : List (List D1)) : (lvl Try.prog HH (n + 1)).2 5 [.s (.agg true [.v (.int .i64 n1), .v (.int .i64 n2), .v (.int .i64 n3)]), .s (.one (.fr 6 raw4)), .s (.one (.v (.int .i64 a5))), .s (.one (.v (.int .i64 b6))), .s (.one (.v (.int .i64 c7))), .s (.one (.fr 1 l8))] [] =
    callT (lvl Try.prog HH (n + 0)).2 6 [.s (.one (.v (.int .i64 a5))), .s (.one (.v (.int .i64 b6))), .s (.one (.v (.int .i64 c7)))] [] outs6 mouts6 fun y9 m10 =>
    callT (lvl Try.prog HH (n + 0)).2 12 [.s (.one (.fr 1 l8)), .s (.one (.v (.int .i64 3000)))] [] outs12 mouts12 fun y11 m12 =>
    callT (lvl Try.prog HH (n + 0)).2 7 [] [] outs7 mouts7 fun y13 m14 =>
    bif y13.1 then (
      callT (lvl Try.prog HH (n + 0)).2 13 [.s (.agg true [.v (.int .i64 n1), .v (.int .i64 n2), .v (.int .i64 n3)]), .s (.one (.fr 6 raw4))] [] outs13 mouts13 fun y15 m16 =>
      bif y15.1 then (
        callT (lvl Try.prog HH (n + 0)).2 13 [.s (.agg true [.v (.int .i64 y9.1.1), .v (.int .i64 y9.1.2.1), .v (.int .i64 y9.1.2.2.1)]), .s (.one (.fr 6 m12.1))] [] outs13 mouts13 fun y17 m18 =>
        bif y17.1 then (
          (nth m12.1 0).bind fun cs19 =>
          (nth m12.1 0).bind fun cs20 =>
          bif Nat.beq ((cs20.drop 0).take 6).length 6 then (
            decCts [.int .i64, .int .i64, .int .i64, .int .i64, .int .i64, .int .i64] ((cs20.drop 0).take 6) fun c21 =>
            bif decide ((m12.1.length + 1) * 48 ≤ 140737488355328) then (
              callT (lvl Try.prog HH (n + 0)).2 13 [.s (.agg true [.v (.int .i64 y9.1.1), .v (.int .i64 y9.1.2.1), .v (.int .i64 y9.1.2.2.1)]), .s (.one (.fr 6 (m12.1 ++ ([[.v (.int .i64 c21.1), .v (.int .i64 c21.2.1), .v (.int .i64 c21.2.2.1), .v (.int .i64 c21.2.2.2.1), .v (.int .i64 c21.2.2.2.2.1), .v (.int .i64 c21.2.2.2.2.2.1)]] : List (List D1)))))] [] outs13 mouts13 fun y22 m23 =>
              bif y22.1 then (
                callT (lvl Try.prog HH (n + 0)).2 13 [.s (.agg true [.v (.int .i64 n1), .v (.int .i64 n2), .v (.int .i64 n3)]), .s (.one (.fr 6 m12.1))] [] outs13 mouts13 fun y24 m25 =>
                bif y24.1 then (
                  callT (lvl Try.prog HH (n + 0)).2 13 [.s (.agg true [.v (.int .i64 y9.1.1), .v (.int .i64 y9.1.2.1), .v (.int .i64 y9.1.2.2.1)]), .s (.one (.fr 6 raw4))] [] outs13 mouts13 fun y26 m27 =>
                  some (.s (.one (.v (.bool y26.1))), []))
                else
                some (.s (.one (.v (.bool false))), []))
              else
              some (.s (.one (.v (.bool false))), []))
            else
            none)
          else
          none)
        else
        some (.s (.one (.v (.bool false))), []))
      else
      some (.s (.one (.v (.bool false))), []))
    else
    some (.s (.one (.v (.bool false))), []) := by
  have h := fn5_w (fun x => x) (fun x => x) n n1 n2 n3 raw4 a5 b6 c7 l8
  rw [lvlW_id] at h
  exact h

end Go.Proofs.Ytceaambiagobbaa.Am
