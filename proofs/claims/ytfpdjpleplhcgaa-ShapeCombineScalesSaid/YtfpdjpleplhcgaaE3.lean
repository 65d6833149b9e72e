/- PRINTED by amprint.py: what the abstract machine answers, function by function. -/
import Derived.Test.YtfpdjpleplhcgaaH
import Derived.KernelRfl
set_option linter.unusedVariables false
set_option maxRecDepth 100000
namespace Go.Proofs.Ytfpdjpleplhcgaa.Am
open Go Go.Proofs

/-! armplan/armplanlaw10.awake -/
theorem fn36 (n : Nat)  : (lvl Try.prog HH (n + 1)).2 36 [] [] =
    callT (lvl Try.prog HH (n + 0)).2 98 [.s (.one (.fr 3 [[.v (.int .i64 0), .v (.int .i64 0), .v (.int .i64 0)], [.v (.int .i64 4), .v (.int .i64 0), .v (.int .i64 0)]]))] [] outs98 mouts98 fun y1 m2 =>
    callT (lvl Try.prog HH (n + 0)).2 38 [.s (.one (.fr 6 y1.1)), .s (.one (.fr 1 [[.v (.int .i64 1)], [.v (.int .i64 3)]]))] [] outs38 mouts38 fun y3 m4 =>
    bif y3.2.2.1 then (
      bif y3.2.1 == 4 then (
        callT (lvl Try.prog HH (n + 0)).2 87 [.s (.agg true [.v (.int .i64 12), .v (.int .i64 0), .v (.int .i64 0)])] [] outs87 mouts87 fun y5 m6 =>
        letIn (((y3.1.1 == y5.1.1) && ((y3.1.2.1 == y5.1.2.1) && true)) && (((y3.1.2.2.1 == y5.1.2.2.1) && ((y3.1.2.2.2.1 == y5.1.2.2.2.1) && true)) && (((y3.1.2.2.2.2.1 == y5.1.2.2.2.2.1) && ((y3.1.2.2.2.2.2.1 == y5.1.2.2.2.2.2.1) && true)) && true)) : Bool) fun b7 =>
        bif b7 then (
          callT (lvl Try.prog HH (n + 0)).2 98 [.s (.one (.fr 3 [[.v (.int .i64 1), .v (.int .i64 0), .v (.int .i64 0)]]))] [] outs98 mouts98 fun y8 m9 =>
          callT (lvl Try.prog HH (n + 0)).2 99 [.s (.one (.fr 6 y8.1))] [] outs99 mouts99 fun y10 m11 =>
          some (.s (.one (.v (.bool y10.1))), []))
        else
        some (.s (.one (.v (.bool false))), []))
      else
      some (.s (.one (.v (.bool false))), []))
    else
    some (.s (.one (.v (.bool false))), []) := by kernel_rfl

/-! armplan/armplanlaw10.ShapeCombineScales -/
theorem loop5_0 (n : Nat) (v10 : List (List D1)) (v11 : List (List D1)) (v12 : Int) (v13 : Int) (es14 : List (List D1)) : (lvl Try.prog HH (n + 1)).1 ⟨5, 0, true⟩ 0 (loopOf Try.f5 0) (encSt S5_0 ((v10, v11, v12, (), v13, ()), (es14, ()))) =
    bif decide (v13 < (((v11.length : Nat) : Int))) then (
      bif decide (0 ≤ v13) then (
        (nth v11 v13.toNat).bind fun cs15 =>
        (nth cs15 0).bind fun d16 =>
        (asInt? .i64 d16).bind fun n17 =>
        letIn (IntKind.wrap .i64 (v12 * n17) : Int) fun n18 =>
        bif decide ((es14.length + 1) * 8 ≤ 140737488355328) then (
          letIn (IntKind.wrap .i64 (v13 + 1) : Int) fun n19 =>
          (lvl Try.prog HH (n + 0)).1 ⟨5, 0, true⟩ 0 (loopOf Try.f5 0) (encSt S5_0 ((v10, v11, v12, (), n19, ()), ((es14 ++ [[.v (.int .i64 n18)]]), ()))))
        else
        none)
      else
      none)
    else
    some (.exit 0, encSt S5_0_e0 ((v10, v11, v12, (), ()), (es14, ()))) := by kernel_rfl

theorem fn5 (n : Nat) (l1 : List (List D1)) (m2 : List (List D1)) (factor3 : Int) : (lvl Try.prog HH (n + 5)).2 5 [.s (.one (.fr 1 l1)), .s (.one (.fr 1 m2)), .s (.one (.v (.int .u8 factor3)))] [] =
    callT (lvl Try.prog HH (n + 4)).2 34 [.s (.one (.fr 1 l1)), .s (.one (.v (.int .i64 3000)))] [] outs34 mouts34 fun y4 m5 =>
    callT (lvl Try.prog HH (n + 4)).2 35 [.s (.one (.v (.int .i64 (((y4.1.length : Nat) : Int))))), .s (.one (.fr 1 m2))] [] outs35 mouts35 fun y6 m7 =>
    letIn (IntKind.wrap .i64 factor3 : Int) fun n8 =>
    letIn (IntKind.wrap .i64 (n8 + 1) : Int) fun n9 =>
    ((lvl Try.prog HH (n + 4)).1 ⟨5, 0, true⟩ 0 (loopOf Try.f5 0) (encSt S5_0 ((y4.1, y6.1, n9, (), 0, ()), ([], ())))).bind fun p20 =>
    bif sameEx (.exit 0) p20.1 then (decSt S5_0_e0 p20.2 fun x21 =>
      callT (lvl Try.prog HH (n + 4)).2 38 [.s (.one (.fr 6 x21.1.1)), .s (.one (.fr 1 x21.1.2.1))] [] outs38 mouts38 fun y22 m23 =>
      callT (lvl Try.prog HH (n + 4)).2 38 [.s (.one (.fr 6 x21.1.1)), .s (.one (.fr 1 x21.2.1))] [] outs38 mouts38 fun y24 m25 =>
      Option.bind (
        letIn (IntKind.wrap .i64 (x21.1.2.2.1 * y22.1.1) : Int) fun n26 =>
        bif y24.1.1 != n26 then (
          some (.ret, encSt S5_2_r ((false, ()), ())))
        else
        letIn (IntKind.wrap .i64 (x21.1.2.2.1 * y22.1.2.1) : Int) fun n27 =>
        bif y24.1.2.1 != n27 then (
          some (.ret, encSt S5_2_r ((false, ()), ())))
        else
        letIn (IntKind.wrap .i64 (x21.1.2.2.1 * y22.1.2.2.1) : Int) fun n28 =>
        bif y24.1.2.2.1 != n28 then (
          some (.ret, encSt S5_2_r ((false, ()), ())))
        else
        letIn (IntKind.wrap .i64 (x21.1.2.2.1 * y22.1.2.2.2.1) : Int) fun n29 =>
        bif y24.1.2.2.2.1 != n29 then (
          some (.ret, encSt S5_2_r ((false, ()), ())))
        else
        letIn (IntKind.wrap .i64 (x21.1.2.2.1 * y22.1.2.2.2.2.1) : Int) fun n30 =>
        bif y24.1.2.2.2.2.1 != n30 then (
          some (.ret, encSt S5_2_r ((false, ()), ())))
        else
        letIn (IntKind.wrap .i64 (x21.1.2.2.1 * y22.1.2.2.2.2.2.1) : Int) fun n31 =>
        bif y24.1.2.2.2.2.2.1 != n31 then (
          some (.ret, encSt S5_2_r ((false, ()), ())))
        else
        some (.exit 2, encSt S5_2_e2 ((x21.1.2.2.1, y22.2.1, y22.2.2.1, y24.2.1, y24.2.2.1, ()), ()))) fun p32 =>
      bif sameEx (.ret) p32.1 then (decSt S5_2_r p32.2 fun x33 =>
        some (.s (.one (.v (.bool x33.1.1))), []))
      else
      bif sameEx (.exit 2) p32.1 then (decSt S5_2_e2 p32.2 fun x34 =>
        callT (lvl Try.prog HH (n + 4)).2 36 [] [] outs36 mouts36 fun y35 m36 =>
        bif y35.1 then (
          bif x34.1.2.2.1 then (
            bif x34.1.2.2.2.2.1 then (
              letIn (IntKind.wrap .i64 (x34.1.1 * x34.1.2.1) : Int) fun n37 =>
              some (.s (.one (.v (.bool (x34.1.2.2.2.1 == n37)))), []))
            else
            some (.s (.one (.v (.bool false))), []))
          else
          some (.s (.one (.v (.bool false))), []))
        else
        some (.s (.one (.v (.bool false))), []))
      else
      none)
    else
    none := by kernel_rfl

end Go.Proofs.Ytfpdjpleplhcgaa.Am
