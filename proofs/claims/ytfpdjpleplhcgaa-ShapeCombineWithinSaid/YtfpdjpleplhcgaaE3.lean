/- PRINTED by amprint.py: what the abstract machine answers, function by function. -/
import Derived.Test.YtfpdjpleplhcgaaH
import Derived.KernelRfl
set_option linter.unusedVariables false
set_option maxRecDepth 100000
namespace Go.Proofs.Ytfpdjpleplhcgaa.Am
open Go Go.Proofs

/-! armplan/armplanref1.Of -/
theorem fn47 (n : Nat) (x1 : Int) : (lvl Try.prog HH (n + 1)).2 47 [.s (.one (.v (.int .i64 x1)))] [] =
    callT (lvl Try.prog HH (n + 0)).2 102 [.s (.one (.v (.int .i64 x1)))] [] outs102 mouts102 fun y2 m3 =>
    callT (lvl Try.prog HH (n + 0)).2 102 [.s (.one (.v (.int .i64 x1)))] [] outs102 mouts102 fun y4 m5 =>
    some (.s (.agg true [.v (.int .i64 y2.1), .v (.int .i64 y4.1)]), []) := by kernel_rfl

/-! armplan/armplanref1.Point -/
theorem fn87 (n : Nat) (v1 : Int) (v2 : Int) (v3 : Int) : (lvl Try.prog HH (n + 1)).2 87 [.s (.agg true [.v (.int .i64 v1), .v (.int .i64 v2), .v (.int .i64 v3)])] [] =
    callT (lvl Try.prog HH (n + 0)).2 47 [.s (.one (.v (.int .i64 v1)))] [] outs47 mouts47 fun y4 m5 =>
    callT (lvl Try.prog HH (n + 0)).2 47 [.s (.one (.v (.int .i64 v2)))] [] outs47 mouts47 fun y6 m7 =>
    callT (lvl Try.prog HH (n + 0)).2 47 [.s (.one (.v (.int .i64 v3)))] [] outs47 mouts47 fun y8 m9 =>
    some (.s (.agg true [.v (.int .i64 y4.1.1), .v (.int .i64 y4.1.2.1), .v (.int .i64 y6.1.1), .v (.int .i64 y6.1.2.1), .v (.int .i64 y8.1.1), .v (.int .i64 y8.1.2.1)]), []) := by kernel_rfl

/-! armplan/armplanmake.Boxed -/
theorem loop98_0 (n : Nat) (v2 : List (List D1)) (v3 : Int) (es4 : List (List D1)) : (lvl Try.prog HH (n + 1)).1 ⟨98, 0, true⟩ 0 (loopOf Try.f98 0) (encSt S98_0 ((v2, (), v3, ()), (es4, ()))) =
    bif decide (v3 < (((v2.length : Nat) : Int))) then (
      bif decide (0 ≤ v3) then (
        (nth v2 v3.toNat).bind fun cs5 =>
        bif Nat.beq ((cs5.drop 0).take 3).length 3 then (
          decCts [.int .i64, .int .i64, .int .i64] ((cs5.drop 0).take 3) fun c6 =>
          callT (lvl Try.prog HH (n + 0)).2 87 [.s (.agg true [.v (.int .i64 c6.1), .v (.int .i64 c6.2.1), .v (.int .i64 c6.2.2.1)])] [] outs87 mouts87 fun y7 m8 =>
          bif decide ((es4.length + 1) * 48 ≤ 140737488355328) then (
            letIn (IntKind.wrap .i64 (v3 + 1) : Int) fun n9 =>
            (lvl Try.prog HH (n + 0)).1 ⟨98, 0, true⟩ 0 (loopOf Try.f98 0) (encSt S98_0 ((v2, (), n9, ()), ((es4 ++ [[.v (.int .i64 y7.1.1), .v (.int .i64 y7.1.2.1), .v (.int .i64 y7.1.2.2.1), .v (.int .i64 y7.1.2.2.2.1), .v (.int .i64 y7.1.2.2.2.2.1), .v (.int .i64 y7.1.2.2.2.2.2.1)]]), ()))))
          else
          none)
        else
        none)
      else
      none)
    else
    some (.exit 0, encSt S98_0_e0 (((), ()), (es4, ()))) := by kernel_rfl

theorem fn98 (n : Nat) (l1 : List (List D1)) : (lvl Try.prog HH (n + 1)).2 98 [.s (.one (.fr 3 l1))] [] =
    ((lvl Try.prog HH (n + 0)).1 ⟨98, 0, true⟩ 0 (loopOf Try.f98 0) (encSt S98_0 ((l1, (), 0, ()), ([], ())))).bind fun p10 =>
    bif sameEx (.exit 0) p10.1 then (decSt S98_0_e0 p10.2 fun x11 =>
      some (.s (.one (.fr 6 x11.2.1)), []))
    else
    none := by kernel_rfl

/-! armplan/armplanlaw10.awake -/
theorem fn36 (n : Nat)  : (lvl Try.prog HH (n + 1)).2 36 [] [] =
    callT (lvl Try.prog HH (n + 0)).2 98 [.s (.one (.fr 3 [[.v (.int .i64 0), .v (.int .i64 0), .v (.int .i64 0)], [.v (.int .i64 4), .v (.int .i64 0), .v (.int .i64 0)]]))] [] outs98 mouts98 fun y1 m2 =>
    callT (lvl Try.prog HH (n + 0)).2 38 [.s (.one (.fr 6 y1.1)), .s (.one (.fr 1 [[.v (.int .i64 1)], [.v (.int .i64 3)]]))] [] outs38 mouts38 fun y3 m4 =>
    bif y3.2.2.1 then (
      bif y3.2.1 == 4 then (
        callT (lvl Try.prog HH (n + 0)).2 87 [.s (.agg true [.v (.int .i64 12), .v (.int .i64 0), .v (.int .i64 0)])] [] outs87 mouts87 fun y5 m6 =>
        letIn (((y3.1.1 == y5.1.1) && ((y3.1.2.1 == y5.1.2.1) && true)) && (((y3.1.2.2.1 == y5.1.2.2.1) && ((y3.1.2.2.2.1 == y5.1.2.2.2.1) && true)) && (((y3.1.2.2.2.2.1 == y5.1.2.2.2.2.1) && ((y3.1.2.2.2.2.2.1 == y5.1.2.2.2.2.2.1) && true)) && true)) : Bool) fun b7 =>
        bif b7 then (
          callT (lvl Try.prog HH (n + 0)).2 98 [.s (.one (.fr 3 [[.v (.int .i64 1), .v (.int .i64 0), .v (.int .i64 0)]]))] [] outs98 mouts98 fun y8 m9 =>
          callT (lvl Try.prog HH (n + 0)).2 99 [.s (.one (.fr 6 y8.1))] [] outs99 mouts99 fun y10 m11 =>
          some (.s (.one (.v (.bool y10.1))), []))
        else
        some (.s (.one (.v (.bool false))), []))
      else
      some (.s (.one (.v (.bool false))), []))
    else
    some (.s (.one (.v (.bool false))), []) := by kernel_rfl

/-! armplan/armplanmake.Total -/
theorem loop40_0 (n : Nat) (v2 : List (List D1)) (v3 : Int) (v4 : Int) : (lvl Try.prog HH (n + 1)).1 ⟨40, 0, true⟩ 0 (loopOf Try.f40 0) (encSt S40_0 ((v2, v3, v4, ()), ())) =
    bif decide (v4 < (((v2.length : Nat) : Int))) then (
      bif decide (0 ≤ v4) then (
        (nth v2 v4.toNat).bind fun cs5 =>
        (nth cs5 0).bind fun d6 =>
        (asInt? .i64 d6).bind fun n7 =>
        letIn (IntKind.wrap .i64 (v3 + n7) : Int) fun n8 =>
        letIn (IntKind.wrap .i64 (v4 + 1) : Int) fun n9 =>
        (lvl Try.prog HH (n + 0)).1 ⟨40, 0, true⟩ 0 (loopOf Try.f40 0) (encSt S40_0 ((v2, n8, n9, ()), ())))
      else
      none)
    else
    some (.exit 0, encSt S40_0_e0 ((v3, ()), ())) := by kernel_rfl

theorem fn40 (n : Nat) (l1 : List (List D1)) : (lvl Try.prog HH (n + 1)).2 40 [.s (.one (.fr 1 l1))] [] =
    ((lvl Try.prog HH (n + 0)).1 ⟨40, 0, true⟩ 0 (loopOf Try.f40 0) (encSt S40_0 ((l1, 0, 0, ()), ()))).bind fun p10 =>
    bif sameEx (.exit 0) p10.1 then (decSt S40_0_e0 p10.2 fun x11 =>
      some (.s (.one (.v (.int .i64 x11.1.1))), []))
    else
    none := by kernel_rfl

/-! armplan/armplanlaw10.ShapeCombineWithin -/
theorem fn4 (n : Nat) (l1 : List (List D1)) (m2 : List (List D1)) (n3 : List (List D1)) : (lvl Try.prog HH (n + 5)).2 4 [.s (.one (.fr 1 l1)), .s (.one (.fr 1 m2)), .s (.one (.fr 1 n3))] [] =
    callT (lvl Try.prog HH (n + 4)).2 34 [.s (.one (.fr 1 l1)), .s (.one (.v (.int .i64 3000)))] [] outs34 mouts34 fun y4 m5 =>
    callT (lvl Try.prog HH (n + 4)).2 35 [.s (.one (.v (.int .i64 (((y4.1.length : Nat) : Int))))), .s (.one (.fr 1 m2))] [] outs35 mouts35 fun y6 m7 =>
    callT (lvl Try.prog HH (n + 4)).2 39 [.s (.one (.fr 6 y4.1)), .s (.one (.fr 1 n3))] [] outs39 mouts39 fun y8 m9 =>
    callT (lvl Try.prog HH (n + 4)).2 38 [.s (.one (.fr 6 y8.1)), .s (.one (.fr 1 y6.1))] [] outs38 mouts38 fun y10 m11 =>
    callT (lvl Try.prog HH (n + 4)).2 38 [.s (.one (.fr 6 y4.1)), .s (.one (.fr 1 y6.1))] [] outs38 mouts38 fun y12 m13 =>
    Option.bind (
      bif y10.1.1 != y10.1.2.1 then (
        some (.ret, encSt S4_0_r ((false, ()), ())))
      else
      bif decide (y10.1.1 < y12.1.1) then (
        some (.ret, encSt S4_0_r ((false, ()), ())))
      else
      bif decide (y10.1.2.1 > y12.1.2.1) then (
        some (.ret, encSt S4_0_r ((false, ()), ())))
      else
      bif y10.1.2.2.1 != y10.1.2.2.2.1 then (
        some (.ret, encSt S4_0_r ((false, ()), ())))
      else
      bif decide (y10.1.2.2.1 < y12.1.2.2.1) then (
        some (.ret, encSt S4_0_r ((false, ()), ())))
      else
      bif decide (y10.1.2.2.2.1 > y12.1.2.2.2.1) then (
        some (.ret, encSt S4_0_r ((false, ()), ())))
      else
      bif y10.1.2.2.2.2.1 != y10.1.2.2.2.2.2.1 then (
        some (.ret, encSt S4_0_r ((false, ()), ())))
      else
      bif decide (y10.1.2.2.2.2.1 < y12.1.2.2.2.2.1) then (
        some (.ret, encSt S4_0_r ((false, ()), ())))
      else
      bif decide (y10.1.2.2.2.2.2.1 > y12.1.2.2.2.2.2.1) then (
        some (.ret, encSt S4_0_r ((false, ()), ())))
      else
      some (.exit 0, encSt S4_0_e0 ((y6.1, y10.2.1, y10.2.2.1, y12.2.1, y12.2.2.1, ()), ()))) fun p14 =>
    bif sameEx (.ret) p14.1 then (decSt S4_0_r p14.2 fun x15 =>
      some (.s (.one (.v (.bool x15.1.1))), []))
    else
    bif sameEx (.exit 0) p14.1 then (decSt S4_0_e0 p14.2 fun x16 =>
      callT (lvl Try.prog HH (n + 4)).2 36 [] [] outs36 mouts36 fun y17 m18 =>
      bif y17.1 then (
        bif x16.1.2.2.1 then (
          bif x16.1.2.2.2.2.1 then (
            bif x16.1.2.1 == x16.1.2.2.2.1 then (
              callT (lvl Try.prog HH (n + 4)).2 40 [.s (.one (.fr 1 x16.1.1))] [] outs40 mouts40 fun y19 m20 =>
              some (.s (.one (.v (.bool (x16.1.2.1 == y19.1)))), []))
            else
            some (.s (.one (.v (.bool false))), []))
          else
          some (.s (.one (.v (.bool false))), []))
        else
        some (.s (.one (.v (.bool false))), []))
      else
      some (.s (.one (.v (.bool false))), []))
    else
    none := by kernel_rfl

end Go.Proofs.Ytfpdjpleplhcgaa.Am
