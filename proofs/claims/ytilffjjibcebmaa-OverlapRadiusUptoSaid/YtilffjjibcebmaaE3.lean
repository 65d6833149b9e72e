/- PRINTED by amprint.py: what the abstract machine answers, function by function. -/
import Derived.Test.YtilffjjibcebmaaH
import Derived.KernelRfl
set_option linter.unusedVariables false
set_option maxRecDepth 100000
namespace Go.Proofs.Ytilffjjibcebmaa.Am
open Go Go.Proofs

/-! armplan/overlap.Overlaps -/
theorem fn17 (n : Nat) (left1 : List (List D1)) (right2 : List (List D1)) (a3 : List (List D1)) (ra4 : Int) (b5 : List (List D1)) (rb6 : Int) : (lvl Try.prog HH (n + 1)).2 17 [.s (.one (.fr 1 left1)), .s (.one (.fr 1 right2)), .s (.one (.fr 6 a3)), .s (.one (.v (.int .i64 ra4))), .s (.one (.fr 6 b5)), .s (.one (.v (.int .i64 rb6)))] [] =
    callT (lvl Try.prog HH (n + 0)).2 16 [.s (.one (.fr 1 left1)), .s (.one (.fr 1 right2)), .s (.one (.fr 6 a3)), .s (.one (.v (.int .i64 ra4))), .s (.one (.fr 6 b5)), .s (.one (.v (.int .i64 rb6)))] [] outs16 mouts16 fun y7 m8 =>
    bif y7.2.1 then (
      some (.s (.one (.v (.bool (decide (y7.1 ≥ 0))))), []))
    else
    some (.s (.one (.v (.bool false))), []) := by kernel_rfl

/-! armplan/armplanlaw16.awake -/
theorem fn12_w (w : CallF → CallF) (n : Nat)  : (lvlW w Try.prog HH (n + 1)).2 12 [] [] =
    callT (w (lvlW w Try.prog HH (n + 0)).2) 29 [.s (.one (.fr 3 [[.v (.int .i64 0), .v (.int .i64 0), .v (.int .i64 0)]]))] [] outs29 mouts29 fun y1 m2 =>
    callT (w (lvlW w Try.prog HH (n + 0)).2) 16 [.s (.one (.fr 1 [[.v (.int .i64 1)]])), .s (.one (.fr 1 [[.v (.int .i64 1)]])), .s (.one (.fr 6 y1.1)), .s (.one (.v (.int .i64 3))), .s (.one (.fr 6 [[.v (.int .i64 3), .v (.int .i64 4), .v (.int .i64 0), .v (.int .i64 0), .v (.int .i64 0), .v (.int .i64 0)]])), .s (.one (.v (.int .i64 1)))] [] outs16 mouts16 fun y3 m4 =>
    callT (w (lvlW w Try.prog HH (n + 0)).2) 16 [.s (.one (.fr 1 [[.v (.int .i64 1)]])), .s (.one (.fr 1 [[.v (.int .i64 1)]])), .s (.one (.fr 6 y1.1)), .s (.one (.v (.int .i64 3))), .s (.one (.fr 6 [[.v (.int .i64 3), .v (.int .i64 4), .v (.int .i64 0), .v (.int .i64 0), .v (.int .i64 0), .v (.int .i64 0)]])), .s (.one (.v (.int .i64 0)))] [] outs16 mouts16 fun y5 m6 =>
    bif y3.2.1 then (
      bif y5.2.1 then (
        bif y3.1 == 0 then (
          bif y5.1 == (-1) then (
            callT (w (lvlW w Try.prog HH (n + 0)).2) 17 [.s (.one (.fr 1 [[.v (.int .i64 1)]])), .s (.one (.fr 1 [[.v (.int .i64 1)]])), .s (.one (.fr 6 y1.1)), .s (.one (.v (.int .i64 3))), .s (.one (.fr 6 [[.v (.int .i64 3), .v (.int .i64 4), .v (.int .i64 0), .v (.int .i64 0), .v (.int .i64 0), .v (.int .i64 0)]])), .s (.one (.v (.int .i64 1)))] [] outs17 mouts17 fun y7 m8 =>
            some (.s (.one (.v (.bool y7.1))), []))
          else
          some (.s (.one (.v (.bool false))), []))
        else
        some (.s (.one (.v (.bool false))), []))
      else
      some (.s (.one (.v (.bool false))), []))
    else
    some (.s (.one (.v (.bool false))), []) := by kernel_rfl
theorem fn12 (n : Nat)  : (lvl Try.prog HH (n + 1)).2 12 [] [] =
    callT (lvl Try.prog HH (n + 0)).2 29 [.s (.one (.fr 3 [[.v (.int .i64 0), .v (.int .i64 0), .v (.int .i64 0)]]))] [] outs29 mouts29 fun y1 m2 =>
    callT (lvl Try.prog HH (n + 0)).2 16 [.s (.one (.fr 1 [[.v (.int .i64 1)]])), .s (.one (.fr 1 [[.v (.int .i64 1)]])), .s (.one (.fr 6 y1.1)), .s (.one (.v (.int .i64 3))), .s (.one (.fr 6 [[.v (.int .i64 3), .v (.int .i64 4), .v (.int .i64 0), .v (.int .i64 0), .v (.int .i64 0), .v (.int .i64 0)]])), .s (.one (.v (.int .i64 1)))] [] outs16 mouts16 fun y3 m4 =>
    callT (lvl Try.prog HH (n + 0)).2 16 [.s (.one (.fr 1 [[.v (.int .i64 1)]])), .s (.one (.fr 1 [[.v (.int .i64 1)]])), .s (.one (.fr 6 y1.1)), .s (.one (.v (.int .i64 3))), .s (.one (.fr 6 [[.v (.int .i64 3), .v (.int .i64 4), .v (.int .i64 0), .v (.int .i64 0), .v (.int .i64 0), .v (.int .i64 0)]])), .s (.one (.v (.int .i64 0)))] [] outs16 mouts16 fun y5 m6 =>
    bif y3.2.1 then (
      bif y5.2.1 then (
        bif y3.1 == 0 then (
          bif y5.1 == (-1) then (
            callT (lvl Try.prog HH (n + 0)).2 17 [.s (.one (.fr 1 [[.v (.int .i64 1)]])), .s (.one (.fr 1 [[.v (.int .i64 1)]])), .s (.one (.fr 6 y1.1)), .s (.one (.v (.int .i64 3))), .s (.one (.fr 6 [[.v (.int .i64 3), .v (.int .i64 4), .v (.int .i64 0), .v (.int .i64 0), .v (.int .i64 0), .v (.int .i64 0)]])), .s (.one (.v (.int .i64 1)))] [] outs17 mouts17 fun y7 m8 =>
            some (.s (.one (.v (.bool y7.1))), []))
          else
          some (.s (.one (.v (.bool false))), []))
        else
        some (.s (.one (.v (.bool false))), []))
      else
      some (.s (.one (.v (.bool false))), []))
    else
    some (.s (.one (.v (.bool false))), []) := by
  have h := fn12_w (fun x => x) n 
  rw [lvlW_id] at h
  exact h

/-! armplan/armplanlaw16.OverlapRadius -/
theorem fn7_w (w : CallF → CallF) (n : Nat) (l1 : List (List D1)) (m2 : List (List D1)) (w3 : List (List D1)) (p4 : Int) (q5 : Int) (more6 : Int) : (lvlW w Try.prog HH (n + 1)).2 7 [.s (.one (.fr 1 l1)), .s (.one (.fr 1 m2)), .s (.one (.fr 1 w3)), .s (.one (.v (.int .i64 p4))), .s (.one (.v (.int .i64 q5))), .s (.one (.v (.int .i64 more6)))] [] =
    callT (w (lvlW w Try.prog HH (n + 0)).2) 10 [.s (.one (.fr 1 l1)), .s (.one (.v (.int .i64 3000)))] [] outs10 mouts10 fun y7 m8 =>
    callT (w (lvlW w Try.prog HH (n + 0)).2) 10 [.s (.one (.fr 1 m2)), .s (.one (.v (.int .i64 3000)))] [] outs10 mouts10 fun y9 m10 =>
    callT (w (lvlW w Try.prog HH (n + 0)).2) 11 [.s (.one (.v (.int .i64 (((y7.1.length : Nat) : Int))))), .s (.one (.v (.int .i64 (((y9.1.length : Nat) : Int))))), .s (.one (.fr 1 w3))] [] outs11 mouts11 fun y11 m12 =>
    callT (w (lvlW w Try.prog HH (n + 0)).2) 14 [.s (.one (.v (.int .i64 p4)))] [] outs14 mouts14 fun y13 m14 =>
    callT (w (lvlW w Try.prog HH (n + 0)).2) 14 [.s (.one (.v (.int .i64 q5)))] [] outs14 mouts14 fun y15 m16 =>
    letIn (IntKind.wrap .i64 (1048576 - y15.1) : Int) fun n17 =>
    letIn (IntKind.wrap .i64 (n17 + 1) : Int) fun n18 =>
    callT (w (lvlW w Try.prog HH (n + 0)).2) 19 [.s (.one (.v (.int .i64 more6))), .s (.one (.v (.int .i64 n18)))] [] outs19 mouts19 fun y19 m20 =>
    callT (w (lvlW w Try.prog HH (n + 0)).2) 12 [] [] outs12 mouts12 fun y21 m22 =>
    bif y21.1 then (
      callT (w (lvlW w Try.prog HH (n + 0)).2) 17 [.s (.one (.fr 1 y11.1)), .s (.one (.fr 1 y11.2.1)), .s (.one (.fr 6 y7.1)), .s (.one (.v (.int .i64 y13.1))), .s (.one (.fr 6 y9.1)), .s (.one (.v (.int .i64 y15.1)))] [] outs17 mouts17 fun y23 m24 =>
      bif !y23.1 then (
        some (.s (.one (.v (.bool true))), []))
      else
      letIn (IntKind.wrap .i64 (y15.1 + y19.1) : Int) fun n25 =>
      callT (w (lvlW w Try.prog HH (n + 0)).2) 17 [.s (.one (.fr 1 y11.1)), .s (.one (.fr 1 y11.2.1)), .s (.one (.fr 6 y7.1)), .s (.one (.v (.int .i64 y13.1))), .s (.one (.fr 6 y9.1)), .s (.one (.v (.int .i64 n25)))] [] outs17 mouts17 fun y26 m27 =>
      some (.s (.one (.v (.bool y26.1))), []))
    else
    some (.s (.one (.v (.bool false))), []) := by kernel_rfl
theorem fn7 (n : Nat) (l1 : List (List D1)) (m2 : List (List D1)) (w3 : List (List D1)) (p4 : Int) (q5 : Int) (more6 : Int) : (lvl Try.prog HH (n + 1)).2 7 [.s (.one (.fr 1 l1)), .s (.one (.fr 1 m2)), .s (.one (.fr 1 w3)), .s (.one (.v (.int .i64 p4))), .s (.one (.v (.int .i64 q5))), .s (.one (.v (.int .i64 more6)))] [] =
    callT (lvl Try.prog HH (n + 0)).2 10 [.s (.one (.fr 1 l1)), .s (.one (.v (.int .i64 3000)))] [] outs10 mouts10 fun y7 m8 =>
    callT (lvl Try.prog HH (n + 0)).2 10 [.s (.one (.fr 1 m2)), .s (.one (.v (.int .i64 3000)))] [] outs10 mouts10 fun y9 m10 =>
    callT (lvl Try.prog HH (n + 0)).2 11 [.s (.one (.v (.int .i64 (((y7.1.length : Nat) : Int))))), .s (.one (.v (.int .i64 (((y9.1.length : Nat) : Int))))), .s (.one (.fr 1 w3))] [] outs11 mouts11 fun y11 m12 =>
    callT (lvl Try.prog HH (n + 0)).2 14 [.s (.one (.v (.int .i64 p4)))] [] outs14 mouts14 fun y13 m14 =>
    callT (lvl Try.prog HH (n + 0)).2 14 [.s (.one (.v (.int .i64 q5)))] [] outs14 mouts14 fun y15 m16 =>
    letIn (IntKind.wrap .i64 (1048576 - y15.1) : Int) fun n17 =>
    letIn (IntKind.wrap .i64 (n17 + 1) : Int) fun n18 =>
    callT (lvl Try.prog HH (n + 0)).2 19 [.s (.one (.v (.int .i64 more6))), .s (.one (.v (.int .i64 n18)))] [] outs19 mouts19 fun y19 m20 =>
    callT (lvl Try.prog HH (n + 0)).2 12 [] [] outs12 mouts12 fun y21 m22 =>
    bif y21.1 then (
      callT (lvl Try.prog HH (n + 0)).2 17 [.s (.one (.fr 1 y11.1)), .s (.one (.fr 1 y11.2.1)), .s (.one (.fr 6 y7.1)), .s (.one (.v (.int .i64 y13.1))), .s (.one (.fr 6 y9.1)), .s (.one (.v (.int .i64 y15.1)))] [] outs17 mouts17 fun y23 m24 =>
      bif !y23.1 then (
        some (.s (.one (.v (.bool true))), []))
      else
      letIn (IntKind.wrap .i64 (y15.1 + y19.1) : Int) fun n25 =>
      callT (lvl Try.prog HH (n + 0)).2 17 [.s (.one (.fr 1 y11.1)), .s (.one (.fr 1 y11.2.1)), .s (.one (.fr 6 y7.1)), .s (.one (.v (.int .i64 y13.1))), .s (.one (.fr 6 y9.1)), .s (.one (.v (.int .i64 n25)))] [] outs17 mouts17 fun y26 m27 =>
      some (.s (.one (.v (.bool y26.1))), []))
    else
    some (.s (.one (.v (.bool false))), []) := by
  have h := fn7_w (fun x => x) n l1 m2 w3 p4 q5 more6
  rw [lvlW_id] at h
  exact h

end Go.Proofs.Ytilffjjibcebmaa.Am
