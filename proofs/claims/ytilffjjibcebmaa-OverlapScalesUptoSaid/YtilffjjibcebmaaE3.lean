/- PRINTED by amprint.py: what the abstract machine answers, function by function. -/
import Derived.Test.YtilffjjibcebmaaH
import Derived.KernelRfl
set_option linter.unusedVariables false
set_option maxRecDepth 100000
namespace Go.Proofs.Ytilffjjibcebmaa.Am
open Go Go.Proofs

/-! armplan/overlap.Overlaps -/
theorem fn17 (n : Nat) (left1 : List (List D1)) (right2 : List (List D1)) (a3 : List (List D1)) (ra4 : Int) (b5 : List (List D1)) (rb6 : Int) : (lvl Try.prog HH (n + 1)).2 17 [.s (.one (.fr 1 left1)), .s (.one (.fr 1 right2)), .s (.one (.fr 6 a3)), .s (.one (.v (.int .i64 ra4))), .s (.one (.fr 6 b5)), .s (.one (.v (.int .i64 rb6)))] [] =
    callT (lvl Try.prog HH (n + 0)).2 16 [.s (.one (.fr 1 left1)), .s (.one (.fr 1 right2)), .s (.one (.fr 6 a3)), .s (.one (.v (.int .i64 ra4))), .s (.one (.fr 6 b5)), .s (.one (.v (.int .i64 rb6)))] [] outs16 mouts16 fun y7 m8 =>
    bif y7.2.1 then (
      some (.s (.one (.v (.bool (decide (y7.1 ≥ 0))))), []))
    else
    some (.s (.one (.v (.bool false))), []) := by kernel_rfl

/-! armplan/armplanlaw16.awake -/
theorem fn12_w (w : CallF → CallF) (n : Nat)  : (lvlW w Try.prog HH (n + 1)).2 12 [] [] =
    callT (w (lvlW w Try.prog HH (n + 0)).2) 29 [.s (.one (.fr 3 [[.v (.int .i64 0), .v (.int .i64 0), .v (.int .i64 0)]]))] [] outs29 mouts29 fun y1 m2 =>
    callT (w (lvlW w Try.prog HH (n + 0)).2) 16 [.s (.one (.fr 1 [[.v (.int .i64 1)]])), .s (.one (.fr 1 [[.v (.int .i64 1)]])), .s (.one (.fr 6 y1.1)), .s (.one (.v (.int .i64 3))), .s (.one (.fr 6 [[.v (.int .i64 3), .v (.int .i64 4), .v (.int .i64 0), .v (.int .i64 0), .v (.int .i64 0), .v (.int .i64 0)]])), .s (.one (.v (.int .i64 1)))] [] outs16 mouts16 fun y3 m4 =>
    callT (w (lvlW w Try.prog HH (n + 0)).2) 16 [.s (.one (.fr 1 [[.v (.int .i64 1)]])), .s (.one (.fr 1 [[.v (.int .i64 1)]])), .s (.one (.fr 6 y1.1)), .s (.one (.v (.int .i64 3))), .s (.one (.fr 6 [[.v (.int .i64 3), .v (.int .i64 4), .v (.int .i64 0), .v (.int .i64 0), .v (.int .i64 0), .v (.int .i64 0)]])), .s (.one (.v (.int .i64 0)))] [] outs16 mouts16 fun y5 m6 =>
    bif y3.2.1 then (
      bif y5.2.1 then (
        bif y3.1 == 0 then (
          bif y5.1 == (-1) then (
            callT (w (lvlW w Try.prog HH (n + 0)).2) 17 [.s (.one (.fr 1 [[.v (.int .i64 1)]])), .s (.one (.fr 1 [[.v (.int .i64 1)]])), .s (.one (.fr 6 y1.1)), .s (.one (.v (.int .i64 3))), .s (.one (.fr 6 [[.v (.int .i64 3), .v (.int .i64 4), .v (.int .i64 0), .v (.int .i64 0), .v (.int .i64 0), .v (.int .i64 0)]])), .s (.one (.v (.int .i64 1)))] [] outs17 mouts17 fun y7 m8 =>
            some (.s (.one (.v (.bool y7.1))), []))
          else
          some (.s (.one (.v (.bool false))), []))
        else
        some (.s (.one (.v (.bool false))), []))
      else
      some (.s (.one (.v (.bool false))), []))
    else
    some (.s (.one (.v (.bool false))), []) := by kernel_rfl
theorem fn12 (n : Nat)  : (lvl Try.prog HH (n + 1)).2 12 [] [] =
    callT (lvl Try.prog HH (n + 0)).2 29 [.s (.one (.fr 3 [[.v (.int .i64 0), .v (.int .i64 0), .v (.int .i64 0)]]))] [] outs29 mouts29 fun y1 m2 =>
    callT (lvl Try.prog HH (n + 0)).2 16 [.s (.one (.fr 1 [[.v (.int .i64 1)]])), .s (.one (.fr 1 [[.v (.int .i64 1)]])), .s (.one (.fr 6 y1.1)), .s (.one (.v (.int .i64 3))), .s (.one (.fr 6 [[.v (.int .i64 3), .v (.int .i64 4), .v (.int .i64 0), .v (.int .i64 0), .v (.int .i64 0), .v (.int .i64 0)]])), .s (.one (.v (.int .i64 1)))] [] outs16 mouts16 fun y3 m4 =>
    callT (lvl Try.prog HH (n + 0)).2 16 [.s (.one (.fr 1 [[.v (.int .i64 1)]])), .s (.one (.fr 1 [[.v (.int .i64 1)]])), .s (.one (.fr 6 y1.1)), .s (.one (.v (.int .i64 3))), .s (.one (.fr 6 [[.v (.int .i64 3), .v (.int .i64 4), .v (.int .i64 0), .v (.int .i64 0), .v (.int .i64 0), .v (.int .i64 0)]])), .s (.one (.v (.int .i64 0)))] [] outs16 mouts16 fun y5 m6 =>
    bif y3.2.1 then (
      bif y5.2.1 then (
        bif y3.1 == 0 then (
          bif y5.1 == (-1) then (
            callT (lvl Try.prog HH (n + 0)).2 17 [.s (.one (.fr 1 [[.v (.int .i64 1)]])), .s (.one (.fr 1 [[.v (.int .i64 1)]])), .s (.one (.fr 6 y1.1)), .s (.one (.v (.int .i64 3))), .s (.one (.fr 6 [[.v (.int .i64 3), .v (.int .i64 4), .v (.int .i64 0), .v (.int .i64 0), .v (.int .i64 0), .v (.int .i64 0)]])), .s (.one (.v (.int .i64 1)))] [] outs17 mouts17 fun y7 m8 =>
            some (.s (.one (.v (.bool y7.1))), []))
          else
          some (.s (.one (.v (.bool false))), []))
        else
        some (.s (.one (.v (.bool false))), []))
      else
      some (.s (.one (.v (.bool false))), []))
    else
    some (.s (.one (.v (.bool false))), []) := by
  have h := fn12_w (fun x => x) n 
  rw [lvlW_id] at h
  exact h

/-! armplan/armplanlaw16.OverlapScales -/
theorem loop6_0 (n : Nat) (v13 : Int) (v14 : Int) (v15 : Int) (v16 : List (List D1)) (v17 : List (List D1)) (v18 : List (List D1)) (v19 : List (List D1)) (v20 : Int) (es21 : List (List D1)) (es22 : List (List D1)) : (lvl Try.prog HH (n + 1)).1 ⟨6, 0, true⟩ 0 (loopOf Try.f6 0) (encSt S6_0 ((v13, v14, v15, v16, v17, v18, v19, (), (), v20, ()), (es21, es22, ()))) =
    bif decide (v20 < (((v18.length : Nat) : Int))) then (
      bif decide (0 ≤ v20) then (
        (nth v18 v20.toNat).bind fun cs23 =>
        (nth cs23 0).bind fun d24 =>
        (asInt? .i64 d24).bind fun n25 =>
        letIn (IntKind.wrap .i64 v15 : Int) fun n26 =>
        letIn (IntKind.wrap .i64 (n26 + 1) : Int) fun n27 =>
        letIn (IntKind.wrap .i64 (n25 * n27) : Int) fun n28 =>
        bif decide ((es21.length + 1) * 8 ≤ 140737488355328) then (
          letIn (IntKind.wrap .i64 (v20 + 1) : Int) fun n29 =>
          (lvl Try.prog HH (n + 0)).1 ⟨6, 0, true⟩ 0 (loopOf Try.f6 0) (encSt S6_0 ((v13, v14, v15, v16, v17, v18, v19, (), (), n29, ()), ((es21 ++ ([[.v (.int .i64 n28)]] : List (List D1))), es22, ()))))
        else
        none)
      else
      none)
    else
    some (.exit 0, encSt S6_0_e0 ((v13, v14, v15, v16, v17, v18, v19, (), (), ()), (es21, es22, ()))) := by kernel_rfl

theorem loop6_2 (n : Nat) (v32 : Int) (v33 : Int) (v34 : Int) (v35 : List (List D1)) (v36 : List (List D1)) (v37 : List (List D1)) (v38 : List (List D1)) (v39 : Int) (es40 : List (List D1)) (es41 : List (List D1)) : (lvl Try.prog HH (n + 1)).1 ⟨6, 0, true⟩ 2 (loopOf Try.f6 2) (encSt S6_2 ((v32, v33, v34, v35, v36, v37, v38, (), (), v39, ()), (es40, es41, ()))) =
    bif decide (v39 < (((v38.length : Nat) : Int))) then (
      bif decide (0 ≤ v39) then (
        (nth v38 v39.toNat).bind fun cs42 =>
        (nth cs42 0).bind fun d43 =>
        (asInt? .i64 d43).bind fun n44 =>
        letIn (IntKind.wrap .i64 v34 : Int) fun n45 =>
        letIn (IntKind.wrap .i64 (n45 + 1) : Int) fun n46 =>
        letIn (IntKind.wrap .i64 (n44 * n46) : Int) fun n47 =>
        bif decide ((es41.length + 1) * 8 ≤ 140737488355328) then (
          letIn (IntKind.wrap .i64 (v39 + 1) : Int) fun n48 =>
          (lvl Try.prog HH (n + 0)).1 ⟨6, 0, true⟩ 2 (loopOf Try.f6 2) (encSt S6_2 ((v32, v33, v34, v35, v36, v37, v38, (), (), n48, ()), (es40, (es41 ++ ([[.v (.int .i64 n47)]] : List (List D1))), ()))))
        else
        none)
      else
      none)
    else
    some (.exit 2, encSt S6_2_e2 ((v32, v33, v35, v36, v37, v38, (), (), ()), (es40, es41, ()))) := by kernel_rfl

theorem fn6_w (w : CallF → CallF) (n : Nat) (l1 : List (List D1)) (m2 : List (List D1)) (w3 : List (List D1)) (p4 : Int) (q5 : Int) (factor6 : Int) : (lvlW w Try.prog HH (n + 1)).2 6 [.s (.one (.fr 1 l1)), .s (.one (.fr 1 m2)), .s (.one (.fr 1 w3)), .s (.one (.v (.int .i64 p4))), .s (.one (.v (.int .i64 q5))), .s (.one (.v (.int .u8 factor6)))] [] =
    callT (w (lvlW w Try.prog HH (n + 0)).2) 10 [.s (.one (.fr 1 l1)), .s (.one (.v (.int .i64 3000)))] [] outs10 mouts10 fun y7 m8 =>
    callT (w (lvlW w Try.prog HH (n + 0)).2) 10 [.s (.one (.fr 1 m2)), .s (.one (.v (.int .i64 3000)))] [] outs10 mouts10 fun y9 m10 =>
    callT (w (lvlW w Try.prog HH (n + 0)).2) 11 [.s (.one (.v (.int .i64 (((y7.1.length : Nat) : Int))))), .s (.one (.v (.int .i64 (((y9.1.length : Nat) : Int))))), .s (.one (.fr 1 w3))] [] outs11 mouts11 fun y11 m12 =>
    ((lvlW w Try.prog HH (n + 0)).1 ⟨6, 0, true⟩ 0 (loopOf Try.f6 0) (encSt S6_0 ((p4, q5, factor6, y7.1, y9.1, y11.1, y11.2.1, (), (), 0, ()), ([], [], ())))).bind fun p30 =>
    bif sameEx (.exit 0) p30.1 then (decSt S6_0_e0 p30.2 fun x31 =>
      ((lvlW w Try.prog HH (n + 0)).1 ⟨6, 0, true⟩ 2 (loopOf Try.f6 2) (encSt S6_2 ((x31.1.1, x31.1.2.1, x31.1.2.2.1, x31.1.2.2.2.1, x31.1.2.2.2.2.1, x31.1.2.2.2.2.2.1, x31.1.2.2.2.2.2.2.1, (), (), 0, ()), (x31.2.1, x31.2.2.1, ())))).bind fun p49 =>
      bif sameEx (.exit 2) p49.1 then (decSt S6_2_e2 p49.2 fun x50 =>
        callT (w (lvlW w Try.prog HH (n + 0)).2) 14 [.s (.one (.v (.int .i64 x50.1.1)))] [] outs14 mouts14 fun y51 m52 =>
        callT (w (lvlW w Try.prog HH (n + 0)).2) 14 [.s (.one (.v (.int .i64 x50.1.2.1)))] [] outs14 mouts14 fun y53 m54 =>
        callT (w (lvlW w Try.prog HH (n + 0)).2) 16 [.s (.one (.fr 1 x50.1.2.2.2.2.1)), .s (.one (.fr 1 x50.1.2.2.2.2.2.1)), .s (.one (.fr 6 x50.1.2.2.1)), .s (.one (.v (.int .i64 y51.1))), .s (.one (.fr 6 x50.1.2.2.2.1)), .s (.one (.v (.int .i64 y53.1)))] [] outs16 mouts16 fun y55 m56 =>
        callT (w (lvlW w Try.prog HH (n + 0)).2) 14 [.s (.one (.v (.int .i64 x50.1.1)))] [] outs14 mouts14 fun y57 m58 =>
        callT (w (lvlW w Try.prog HH (n + 0)).2) 14 [.s (.one (.v (.int .i64 x50.1.2.1)))] [] outs14 mouts14 fun y59 m60 =>
        callT (w (lvlW w Try.prog HH (n + 0)).2) 16 [.s (.one (.fr 1 x50.2.1)), .s (.one (.fr 1 x50.2.2.1)), .s (.one (.fr 6 x50.1.2.2.1)), .s (.one (.v (.int .i64 y57.1))), .s (.one (.fr 6 x50.1.2.2.2.1)), .s (.one (.v (.int .i64 y59.1)))] [] outs16 mouts16 fun y61 m62 =>
        callT (w (lvlW w Try.prog HH (n + 0)).2) 12 [] [] outs12 mouts12 fun y63 m64 =>
        bif y63.1 then (
          bif y55.2.1 then (
            bif y61.2.1 then (
              some (.s (.one (.v (.bool (y55.1 == y61.1)))), []))
            else
            some (.s (.one (.v (.bool false))), []))
          else
          some (.s (.one (.v (.bool false))), []))
        else
        some (.s (.one (.v (.bool false))), []))
      else
      none)
    else
    none := by kernel_rfl
theorem fn6 (n : Nat) (l1 : List (List D1)) (m2 : List (List D1)) (w3 : List (List D1)) (p4 : Int) (q5 : Int) (factor6 : Int) : (lvl Try.prog HH (n + 1)).2 6 [.s (.one (.fr 1 l1)), .s (.one (.fr 1 m2)), .s (.one (.fr 1 w3)), .s (.one (.v (.int .i64 p4))), .s (.one (.v (.int .i64 q5))), .s (.one (.v (.int .u8 factor6)))] [] =
    callT (lvl Try.prog HH (n + 0)).2 10 [.s (.one (.fr 1 l1)), .s (.one (.v (.int .i64 3000)))] [] outs10 mouts10 fun y7 m8 =>
    callT (lvl Try.prog HH (n + 0)).2 10 [.s (.one (.fr 1 m2)), .s (.one (.v (.int .i64 3000)))] [] outs10 mouts10 fun y9 m10 =>
    callT (lvl Try.prog HH (n + 0)).2 11 [.s (.one (.v (.int .i64 (((y7.1.length : Nat) : Int))))), .s (.one (.v (.int .i64 (((y9.1.length : Nat) : Int))))), .s (.one (.fr 1 w3))] [] outs11 mouts11 fun y11 m12 =>
    ((lvl Try.prog HH (n + 0)).1 ⟨6, 0, true⟩ 0 (loopOf Try.f6 0) (encSt S6_0 ((p4, q5, factor6, y7.1, y9.1, y11.1, y11.2.1, (), (), 0, ()), ([], [], ())))).bind fun p30 =>
    bif sameEx (.exit 0) p30.1 then (decSt S6_0_e0 p30.2 fun x31 =>
      ((lvl Try.prog HH (n + 0)).1 ⟨6, 0, true⟩ 2 (loopOf Try.f6 2) (encSt S6_2 ((x31.1.1, x31.1.2.1, x31.1.2.2.1, x31.1.2.2.2.1, x31.1.2.2.2.2.1, x31.1.2.2.2.2.2.1, x31.1.2.2.2.2.2.2.1, (), (), 0, ()), (x31.2.1, x31.2.2.1, ())))).bind fun p49 =>
      bif sameEx (.exit 2) p49.1 then (decSt S6_2_e2 p49.2 fun x50 =>
        callT (lvl Try.prog HH (n + 0)).2 14 [.s (.one (.v (.int .i64 x50.1.1)))] [] outs14 mouts14 fun y51 m52 =>
        callT (lvl Try.prog HH (n + 0)).2 14 [.s (.one (.v (.int .i64 x50.1.2.1)))] [] outs14 mouts14 fun y53 m54 =>
        callT (lvl Try.prog HH (n + 0)).2 16 [.s (.one (.fr 1 x50.1.2.2.2.2.1)), .s (.one (.fr 1 x50.1.2.2.2.2.2.1)), .s (.one (.fr 6 x50.1.2.2.1)), .s (.one (.v (.int .i64 y51.1))), .s (.one (.fr 6 x50.1.2.2.2.1)), .s (.one (.v (.int .i64 y53.1)))] [] outs16 mouts16 fun y55 m56 =>
        callT (lvl Try.prog HH (n + 0)).2 14 [.s (.one (.v (.int .i64 x50.1.1)))] [] outs14 mouts14 fun y57 m58 =>
        callT (lvl Try.prog HH (n + 0)).2 14 [.s (.one (.v (.int .i64 x50.1.2.1)))] [] outs14 mouts14 fun y59 m60 =>
        callT (lvl Try.prog HH (n + 0)).2 16 [.s (.one (.fr 1 x50.2.1)), .s (.one (.fr 1 x50.2.2.1)), .s (.one (.fr 6 x50.1.2.2.1)), .s (.one (.v (.int .i64 y57.1))), .s (.one (.fr 6 x50.1.2.2.2.1)), .s (.one (.v (.int .i64 y59.1)))] [] outs16 mouts16 fun y61 m62 =>
        callT (lvl Try.prog HH (n + 0)).2 12 [] [] outs12 mouts12 fun y63 m64 =>
        bif y63.1 then (
          bif y55.2.1 then (
            bif y61.2.1 then (
              some (.s (.one (.v (.bool (y55.1 == y61.1)))), []))
            else
            some (.s (.one (.v (.bool false))), []))
          else
          some (.s (.one (.v (.bool false))), []))
        else
        some (.s (.one (.v (.bool false))), []))
      else
      none)
    else
    none := by
  have h := fn6_w (fun x => x) n l1 m2 w3 p4 q5 factor6
  rw [lvlW_id] at h
  exact h

end Go.Proofs.Ytilffjjibcebmaa.Am
