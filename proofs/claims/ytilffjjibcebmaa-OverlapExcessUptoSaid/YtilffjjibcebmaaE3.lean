/- PRINTED by amprint.py: what the abstract machine answers, function by function. -/
import Derived.Test.YtilffjjibcebmaaH
import Derived.KernelRfl
set_option linter.unusedVariables false
set_option maxRecDepth 100000
namespace Go.Proofs.Ytilffjjibcebmaa.Am
open Go Go.Proofs

/-! armplan/armplanref14.Overlaps -/
theorem fn31 (n : Nat) (left1 : List (List D1)) (right2 : List (List D1)) (a3 : List (List D1)) (ra4 : Int) (b5 : List (List D1)) (rb6 : Int) : (lvl Try.prog HH (n + 1)).2 31 [.s (.one (.fr 1 left1)), .s (.one (.fr 1 right2)), .s (.one (.fr 6 a3)), .s (.one (.v (.int .i64 ra4))), .s (.one (.fr 6 b5)), .s (.one (.v (.int .i64 rb6)))] [] =
    callT (lvl Try.prog HH (n + 0)).2 30 [.s (.one (.fr 1 left1)), .s (.one (.fr 1 right2)), .s (.one (.fr 6 a3)), .s (.one (.v (.int .i64 ra4))), .s (.one (.fr 6 b5)), .s (.one (.v (.int .i64 rb6)))] [] outs30 mouts30 fun y7 m8 =>
    bif y7.2.1 then (
      some (.s (.one (.v (.bool (decide (y7.1 ≥ 0))))), []))
    else
    some (.s (.one (.v (.bool false))), []) := by kernel_rfl

/-! armplan/armplanlaw16.excess -/
theorem fn13_w (w : CallF → CallF) (n : Nat) (left1 : List (List D1)) (right2 : List (List D1)) (a3 : List (List D1)) (ra4 : Int) (b5 : List (List D1)) (rb6 : Int) : (lvlW w Try.prog HH (n + 1)).2 13 [.s (.one (.fr 1 left1)), .s (.one (.fr 1 right2)), .s (.one (.fr 6 a3)), .s (.one (.v (.int .i64 ra4))), .s (.one (.fr 6 b5)), .s (.one (.v (.int .i64 rb6)))] [] =
    callT (w (lvlW w Try.prog HH (n + 0)).2) 16 [.s (.one (.fr 1 left1)), .s (.one (.fr 1 right2)), .s (.one (.fr 6 a3)), .s (.one (.v (.int .i64 ra4))), .s (.one (.fr 6 b5)), .s (.one (.v (.int .i64 rb6)))] [] outs16 mouts16 fun y7 m8 =>
    callT (w (lvlW w Try.prog HH (n + 0)).2) 30 [.s (.one (.fr 1 left1)), .s (.one (.fr 1 right2)), .s (.one (.fr 6 a3)), .s (.one (.v (.int .i64 ra4))), .s (.one (.fr 6 b5)), .s (.one (.v (.int .i64 rb6)))] [] outs30 mouts30 fun y9 m10 =>
    bif y7.1 == y9.1 then (
      bif y7.2.1 == y9.2.1 then (
        callT (w (lvlW w Try.prog HH (n + 0)).2) 17 [.s (.one (.fr 1 left1)), .s (.one (.fr 1 right2)), .s (.one (.fr 6 a3)), .s (.one (.v (.int .i64 ra4))), .s (.one (.fr 6 b5)), .s (.one (.v (.int .i64 rb6)))] [] outs17 mouts17 fun y11 m12 =>
        callT (w (lvlW w Try.prog HH (n + 0)).2) 31 [.s (.one (.fr 1 left1)), .s (.one (.fr 1 right2)), .s (.one (.fr 6 a3)), .s (.one (.v (.int .i64 ra4))), .s (.one (.fr 6 b5)), .s (.one (.v (.int .i64 rb6)))] [] outs31 mouts31 fun y13 m14 =>
        some (.s (.one (.v (.bool (y11.1 == y13.1)))), []))
      else
      some (.s (.one (.v (.bool false))), []))
    else
    some (.s (.one (.v (.bool false))), []) := by kernel_rfl
theorem fn13 (n : Nat) (left1 : List (List D1)) (right2 : List (List D1)) (a3 : List (List D1)) (ra4 : Int) (b5 : List (List D1)) (rb6 : Int) : (lvl Try.prog HH (n + 1)).2 13 [.s (.one (.fr 1 left1)), .s (.one (.fr 1 right2)), .s (.one (.fr 6 a3)), .s (.one (.v (.int .i64 ra4))), .s (.one (.fr 6 b5)), .s (.one (.v (.int .i64 rb6)))] [] =
    callT (lvl Try.prog HH (n + 0)).2 16 [.s (.one (.fr 1 left1)), .s (.one (.fr 1 right2)), .s (.one (.fr 6 a3)), .s (.one (.v (.int .i64 ra4))), .s (.one (.fr 6 b5)), .s (.one (.v (.int .i64 rb6)))] [] outs16 mouts16 fun y7 m8 =>
    callT (lvl Try.prog HH (n + 0)).2 30 [.s (.one (.fr 1 left1)), .s (.one (.fr 1 right2)), .s (.one (.fr 6 a3)), .s (.one (.v (.int .i64 ra4))), .s (.one (.fr 6 b5)), .s (.one (.v (.int .i64 rb6)))] [] outs30 mouts30 fun y9 m10 =>
    bif y7.1 == y9.1 then (
      bif y7.2.1 == y9.2.1 then (
        callT (lvl Try.prog HH (n + 0)).2 17 [.s (.one (.fr 1 left1)), .s (.one (.fr 1 right2)), .s (.one (.fr 6 a3)), .s (.one (.v (.int .i64 ra4))), .s (.one (.fr 6 b5)), .s (.one (.v (.int .i64 rb6)))] [] outs17 mouts17 fun y11 m12 =>
        callT (lvl Try.prog HH (n + 0)).2 31 [.s (.one (.fr 1 left1)), .s (.one (.fr 1 right2)), .s (.one (.fr 6 a3)), .s (.one (.v (.int .i64 ra4))), .s (.one (.fr 6 b5)), .s (.one (.v (.int .i64 rb6)))] [] outs31 mouts31 fun y13 m14 =>
        some (.s (.one (.v (.bool (y11.1 == y13.1)))), []))
      else
      some (.s (.one (.v (.bool false))), []))
    else
    some (.s (.one (.v (.bool false))), []) := by
  have h := fn13_w (fun x => x) n left1 right2 a3 ra4 b5 rb6
  rw [lvlW_id] at h
  exact h

/-! armplan/armplanlaw16.radius -/
theorem fn14 (n : Nat) (r1 : Int) : (lvl Try.prog HH (n + 1)).2 14 [.s (.one (.v (.int .i64 r1)))] [] =
    letIn (Int.fdiv r1 4 : Int) fun n2 =>
    letIn (IntKind.wrap .i64 ((BitVec.ofInt 64 r1 &&& BitVec.ofInt 64 3).toNat : Nat) : Int) fun n3 =>
    bif (decide (0 ≤ n3)) && (decide (n3 < 4)) then (
      (nth ([.v (.int .i64 1), .v (.int .i64 30000), .v (.int .i64 200000), .v (.int .i64 1048577)] : List D1) (n3.toNat * 1)).bind fun d4 =>
      (asInt? .i64 d4).bind fun n5 =>
      callT (lvl Try.prog HH (n + 0)).2 19 [.s (.one (.v (.int .i64 n2))), .s (.one (.v (.int .i64 n5)))] [] outs19 mouts19 fun y6 m7 =>
      some (.s (.one (.v (.int .i64 y6.1))), []))
    else
    none := by kernel_rfl

/-! armplan/armplanlaw16.OverlapExcess -/
theorem fn3_w (w : CallF → CallF) (n : Nat) (left1 : List (List D1)) (right2 : List (List D1)) (ra3 : Int) (rb4 : Int) (raw5 : List (List D1)) (l6 : List (List D1)) (m7 : List (List D1)) (w8 : List (List D1)) (p9 : Int) (q10 : Int) : (lvlW w Try.prog HH (n + 1)).2 3 [.s (.one (.fr 1 left1)), .s (.one (.fr 1 right2)), .s (.one (.v (.int .i64 ra3))), .s (.one (.v (.int .i64 rb4))), .s (.one (.fr 6 raw5)), .s (.one (.fr 1 l6)), .s (.one (.fr 1 m7)), .s (.one (.fr 1 w8)), .s (.one (.v (.int .i64 p9))), .s (.one (.v (.int .i64 q10)))] [] =
    callT (w (lvlW w Try.prog HH (n + 0)).2) 10 [.s (.one (.fr 1 l6)), .s (.one (.v (.int .i64 3000)))] [] outs10 mouts10 fun y11 m12 =>
    callT (w (lvlW w Try.prog HH (n + 0)).2) 10 [.s (.one (.fr 1 m7)), .s (.one (.v (.int .i64 3000)))] [] outs10 mouts10 fun y13 m14 =>
    callT (w (lvlW w Try.prog HH (n + 0)).2) 11 [.s (.one (.v (.int .i64 (((y11.1.length : Nat) : Int))))), .s (.one (.v (.int .i64 (((y13.1.length : Nat) : Int))))), .s (.one (.fr 1 w8))] [] outs11 mouts11 fun y15 m16 =>
    callT (w (lvlW w Try.prog HH (n + 0)).2) 12 [] [] outs12 mouts12 fun y17 m18 =>
    bif y17.1 then (
      callT (w (lvlW w Try.prog HH (n + 0)).2) 13 [.s (.one (.fr 1 left1)), .s (.one (.fr 1 right2)), .s (.one (.fr 6 raw5)), .s (.one (.v (.int .i64 ra3))), .s (.one (.fr 6 y13.1)), .s (.one (.v (.int .i64 rb4)))] [] outs13 mouts13 fun y19 m20 =>
      bif y19.1 then (
        callT (w (lvlW w Try.prog HH (n + 0)).2) 14 [.s (.one (.v (.int .i64 p9)))] [] outs14 mouts14 fun y21 m22 =>
        callT (w (lvlW w Try.prog HH (n + 0)).2) 14 [.s (.one (.v (.int .i64 q10)))] [] outs14 mouts14 fun y23 m24 =>
        callT (w (lvlW w Try.prog HH (n + 0)).2) 13 [.s (.one (.fr 1 y15.1)), .s (.one (.fr 1 y15.2.1)), .s (.one (.fr 6 y11.1)), .s (.one (.v (.int .i64 y21.1))), .s (.one (.fr 6 y13.1)), .s (.one (.v (.int .i64 y23.1)))] [] outs13 mouts13 fun y25 m26 =>
        bif y25.1 then (
          callT (w (lvlW w Try.prog HH (n + 0)).2) 14 [.s (.one (.v (.int .i64 p9)))] [] outs14 mouts14 fun y27 m28 =>
          callT (w (lvlW w Try.prog HH (n + 0)).2) 14 [.s (.one (.v (.int .i64 q10)))] [] outs14 mouts14 fun y29 m30 =>
          callT (w (lvlW w Try.prog HH (n + 0)).2) 13 [.s (.one (.fr 1 left1)), .s (.one (.fr 1 y15.2.1)), .s (.one (.fr 6 y11.1)), .s (.one (.v (.int .i64 y27.1))), .s (.one (.fr 6 y13.1)), .s (.one (.v (.int .i64 y29.1)))] [] outs13 mouts13 fun y31 m32 =>
          bif y31.1 then (
            callT (w (lvlW w Try.prog HH (n + 0)).2) 13 [.s (.one (.fr 1 y15.1)), .s (.one (.fr 1 y15.2.1)), .s (.one (.fr 6 y11.1)), .s (.one (.v (.int .i64 ra3))), .s (.one (.fr 6 y13.1)), .s (.one (.v (.int .i64 rb4)))] [] outs13 mouts13 fun y33 m34 =>
            bif y33.1 then (
              callT (w (lvlW w Try.prog HH (n + 0)).2) 15 [.s (.one (.v (.int .i64 (((y13.1.length : Nat) : Int))))), .s (.one (.fr 1 w8))] [] outs15 mouts15 fun y35 m36 =>
              callT (w (lvlW w Try.prog HH (n + 0)).2) 14 [.s (.one (.v (.int .i64 p9)))] [] outs14 mouts14 fun y37 m38 =>
              callT (w (lvlW w Try.prog HH (n + 0)).2) 14 [.s (.one (.v (.int .i64 q10)))] [] outs14 mouts14 fun y39 m40 =>
              callT (w (lvlW w Try.prog HH (n + 0)).2) 13 [.s (.one (.fr 1 y15.1)), .s (.one (.fr 1 m36.1)), .s (.one (.fr 6 y11.1)), .s (.one (.v (.int .i64 y37.1))), .s (.one (.fr 6 y13.1)), .s (.one (.v (.int .i64 y39.1)))] [] outs13 mouts13 fun y41 m42 =>
              some (.s (.one (.v (.bool y41.1))), []))
            else
            some (.s (.one (.v (.bool false))), []))
          else
          some (.s (.one (.v (.bool false))), []))
        else
        some (.s (.one (.v (.bool false))), []))
      else
      some (.s (.one (.v (.bool false))), []))
    else
    some (.s (.one (.v (.bool false))), []) := by kernel_rfl
theorem fn3 (n : Nat) (left1 : List (List D1)) (right2 : List (List D1)) (ra3 : Int) (rb4 : Int) (raw5 : List (List D1)) (l6 : List (List D1)) (m7 : List (List D1)) (w8 : List (List D1)) (p9 : Int) (q10 : Int) : (lvl Try.prog HH (n + 1)).2 3 [.s (.one (.fr 1 left1)), .s (.one (.fr 1 right2)), .s (.one (.v (.int .i64 ra3))), .s (.one (.v (.int .i64 rb4))), .s (.one (.fr 6 raw5)), .s (.one (.fr 1 l6)), .s (.one (.fr 1 m7)), .s (.one (.fr 1 w8)), .s (.one (.v (.int .i64 p9))), .s (.one (.v (.int .i64 q10)))] [] =
    callT (lvl Try.prog HH (n + 0)).2 10 [.s (.one (.fr 1 l6)), .s (.one (.v (.int .i64 3000)))] [] outs10 mouts10 fun y11 m12 =>
    callT (lvl Try.prog HH (n + 0)).2 10 [.s (.one (.fr 1 m7)), .s (.one (.v (.int .i64 3000)))] [] outs10 mouts10 fun y13 m14 =>
    callT (lvl Try.prog HH (n + 0)).2 11 [.s (.one (.v (.int .i64 (((y11.1.length : Nat) : Int))))), .s (.one (.v (.int .i64 (((y13.1.length : Nat) : Int))))), .s (.one (.fr 1 w8))] [] outs11 mouts11 fun y15 m16 =>
    callT (lvl Try.prog HH (n + 0)).2 12 [] [] outs12 mouts12 fun y17 m18 =>
    bif y17.1 then (
      callT (lvl Try.prog HH (n + 0)).2 13 [.s (.one (.fr 1 left1)), .s (.one (.fr 1 right2)), .s (.one (.fr 6 raw5)), .s (.one (.v (.int .i64 ra3))), .s (.one (.fr 6 y13.1)), .s (.one (.v (.int .i64 rb4)))] [] outs13 mouts13 fun y19 m20 =>
      bif y19.1 then (
        callT (lvl Try.prog HH (n + 0)).2 14 [.s (.one (.v (.int .i64 p9)))] [] outs14 mouts14 fun y21 m22 =>
        callT (lvl Try.prog HH (n + 0)).2 14 [.s (.one (.v (.int .i64 q10)))] [] outs14 mouts14 fun y23 m24 =>
        callT (lvl Try.prog HH (n + 0)).2 13 [.s (.one (.fr 1 y15.1)), .s (.one (.fr 1 y15.2.1)), .s (.one (.fr 6 y11.1)), .s (.one (.v (.int .i64 y21.1))), .s (.one (.fr 6 y13.1)), .s (.one (.v (.int .i64 y23.1)))] [] outs13 mouts13 fun y25 m26 =>
        bif y25.1 then (
          callT (lvl Try.prog HH (n + 0)).2 14 [.s (.one (.v (.int .i64 p9)))] [] outs14 mouts14 fun y27 m28 =>
          callT (lvl Try.prog HH (n + 0)).2 14 [.s (.one (.v (.int .i64 q10)))] [] outs14 mouts14 fun y29 m30 =>
          callT (lvl Try.prog HH (n + 0)).2 13 [.s (.one (.fr 1 left1)), .s (.one (.fr 1 y15.2.1)), .s (.one (.fr 6 y11.1)), .s (.one (.v (.int .i64 y27.1))), .s (.one (.fr 6 y13.1)), .s (.one (.v (.int .i64 y29.1)))] [] outs13 mouts13 fun y31 m32 =>
          bif y31.1 then (
            callT (lvl Try.prog HH (n + 0)).2 13 [.s (.one (.fr 1 y15.1)), .s (.one (.fr 1 y15.2.1)), .s (.one (.fr 6 y11.1)), .s (.one (.v (.int .i64 ra3))), .s (.one (.fr 6 y13.1)), .s (.one (.v (.int .i64 rb4)))] [] outs13 mouts13 fun y33 m34 =>
            bif y33.1 then (
              callT (lvl Try.prog HH (n + 0)).2 15 [.s (.one (.v (.int .i64 (((y13.1.length : Nat) : Int))))), .s (.one (.fr 1 w8))] [] outs15 mouts15 fun y35 m36 =>
              callT (lvl Try.prog HH (n + 0)).2 14 [.s (.one (.v (.int .i64 p9)))] [] outs14 mouts14 fun y37 m38 =>
              callT (lvl Try.prog HH (n + 0)).2 14 [.s (.one (.v (.int .i64 q10)))] [] outs14 mouts14 fun y39 m40 =>
              callT (lvl Try.prog HH (n + 0)).2 13 [.s (.one (.fr 1 y15.1)), .s (.one (.fr 1 m36.1)), .s (.one (.fr 6 y11.1)), .s (.one (.v (.int .i64 y37.1))), .s (.one (.fr 6 y13.1)), .s (.one (.v (.int .i64 y39.1)))] [] outs13 mouts13 fun y41 m42 =>
              some (.s (.one (.v (.bool y41.1))), []))
            else
            some (.s (.one (.v (.bool false))), []))
          else
          some (.s (.one (.v (.bool false))), []))
        else
        some (.s (.one (.v (.bool false))), []))
      else
      some (.s (.one (.v (.bool false))), []))
    else
    some (.s (.one (.v (.bool false))), []) := by
  have h := fn3_w (fun x => x) n left1 right2 ra3 rb4 raw5 l6 m7 w8 p9 q10
  rw [lvlW_id] at h
  exact h

end Go.Proofs.Ytilffjjibcebmaa.Am
