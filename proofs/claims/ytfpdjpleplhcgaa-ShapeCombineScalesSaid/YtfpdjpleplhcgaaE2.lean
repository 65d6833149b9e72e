/- PRINTED by amprint.py: what the abstract machine answers, function by function. -/
import Derived.Test.YtfpdjpleplhcgaaH
import Derived.KernelRfl
set_option linter.unusedVariables false
set_option maxRecDepth 100000
namespace Go.Proofs.Ytfpdjpleplhcgaa.Am
open Go Go.Proofs

/-! armplan/armplanref1.Clamp -/
theorem fn102 (n : Nat) (a1 : Int) : (lvl Try.prog HH (n + 1)).2 102 [.s (.one (.v (.int .i64 a1)))] [] =
    letIn (if 2147483648 < a1 then 2147483648 else a1 : Int) fun n2 =>
    letIn (if n2 > (-2147483648) then n2 else (-2147483648) : Int) fun n3 =>
    some (.s (.one (.v (.int .i64 n3))), []) := by kernel_rfl

/-! armplan/armplanref1.Of -/
theorem fn47 (n : Nat) (x1 : Int) : (lvl Try.prog HH (n + 1)).2 47 [.s (.one (.v (.int .i64 x1)))] [] =
    callT (lvl Try.prog HH (n + 0)).2 102 [.s (.one (.v (.int .i64 x1)))] [] outs102 mouts102 fun y2 m3 =>
    callT (lvl Try.prog HH (n + 0)).2 102 [.s (.one (.v (.int .i64 x1)))] [] outs102 mouts102 fun y4 m5 =>
    some (.s (.agg true [.v (.int .i64 y2.1), .v (.int .i64 y4.1)]), []) := by kernel_rfl

/-! armplan/armplanref1.Point -/
theorem fn87 (n : Nat) (v1 : Int) (v2 : Int) (v3 : Int) : (lvl Try.prog HH (n + 1)).2 87 [.s (.agg true [.v (.int .i64 v1), .v (.int .i64 v2), .v (.int .i64 v3)])] [] =
    callT (lvl Try.prog HH (n + 0)).2 47 [.s (.one (.v (.int .i64 v1)))] [] outs47 mouts47 fun y4 m5 =>
    callT (lvl Try.prog HH (n + 0)).2 47 [.s (.one (.v (.int .i64 v2)))] [] outs47 mouts47 fun y6 m7 =>
    callT (lvl Try.prog HH (n + 0)).2 47 [.s (.one (.v (.int .i64 v3)))] [] outs47 mouts47 fun y8 m9 =>
    some (.s (.agg true [.v (.int .i64 y4.1.1), .v (.int .i64 y4.1.2.1), .v (.int .i64 y6.1.1), .v (.int .i64 y6.1.2.1), .v (.int .i64 y8.1.1), .v (.int .i64 y8.1.2.1)]), []) := by kernel_rfl

/-! armplan/armplanmake.Boxed -/
theorem loop98_0 (n : Nat) (v2 : List (List D1)) (v3 : Int) (es4 : List (List D1)) : (lvl Try.prog HH (n + 1)).1 ⟨98, 0, true⟩ 0 (loopOf Try.f98 0) (encSt S98_0 ((v2, (), v3, ()), (es4, ()))) =
    bif decide (v3 < (((v2.length : Nat) : Int))) then (
      bif decide (0 ≤ v3) then (
        (nth v2 v3.toNat).bind fun cs5 =>
        bif Nat.beq ((cs5.drop 0).take 3).length 3 then (
          decCts [.int .i64, .int .i64, .int .i64] ((cs5.drop 0).take 3) fun c6 =>
          callT (lvl Try.prog HH (n + 0)).2 87 [.s (.agg true [.v (.int .i64 c6.1), .v (.int .i64 c6.2.1), .v (.int .i64 c6.2.2.1)])] [] outs87 mouts87 fun y7 m8 =>
          bif decide ((es4.length + 1) * 48 ≤ 140737488355328) then (
            letIn (IntKind.wrap .i64 (v3 + 1) : Int) fun n9 =>
            (lvl Try.prog HH (n + 0)).1 ⟨98, 0, true⟩ 0 (loopOf Try.f98 0) (encSt S98_0 ((v2, (), n9, ()), ((es4 ++ [[.v (.int .i64 y7.1.1), .v (.int .i64 y7.1.2.1), .v (.int .i64 y7.1.2.2.1), .v (.int .i64 y7.1.2.2.2.1), .v (.int .i64 y7.1.2.2.2.2.1), .v (.int .i64 y7.1.2.2.2.2.2.1)]]), ()))))
          else
          none)
        else
        none)
      else
      none)
    else
    some (.exit 0, encSt S98_0_e0 (((), ()), (es4, ()))) := by kernel_rfl

theorem fn98 (n : Nat) (l1 : List (List D1)) : (lvl Try.prog HH (n + 1)).2 98 [.s (.one (.fr 3 l1))] [] =
    ((lvl Try.prog HH (n + 0)).1 ⟨98, 0, true⟩ 0 (loopOf Try.f98 0) (encSt S98_0 ((l1, (), 0, ()), ([], ())))).bind fun p10 =>
    bif sameEx (.exit 0) p10.1 then (decSt S98_0_e0 p10.2 fun x11 =>
      some (.s (.one (.fr 6 x11.2.1)), []))
    else
    none := by kernel_rfl

end Go.Proofs.Ytfpdjpleplhcgaa.Am
