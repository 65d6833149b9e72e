/- PRINTED by amprint.py: what the abstract machine answers, function by function. -/
import Derived.Test.YtilffjjibcebmaaH
import Derived.KernelRfl
set_option linter.unusedVariables false
set_option maxRecDepth 100000
namespace Go.Proofs.Ytilffjjibcebmaa.Am
open Go Go.Proofs

/-! armplan/armplanmake.Part -/
theorem fn34 (n : Nat) (a1 : Int) (a2 : Int) (m3 : Int) (n4 : Int) : (lvl Try.prog HH (n + 1)).2 34 [.s (.agg true [.v (.int .i64 a1), .v (.int .i64 a2)]), .s (.one (.v (.int .i64 m3))), .s (.one (.v (.int .i64 n4)))] [] =
    letIn (IntKind.wrap .i64 (a2 - a1) : Int) fun n5 =>
    letIn (IntKind.wrap .i64 (n5 + 1) : Int) fun n6 =>
    callT (lvl Try.prog HH (n + 0)).2 19 [.s (.one (.v (.int .i64 m3))), .s (.one (.v (.int .i64 n6)))] [] outs19 mouts19 fun y7 m8 =>
    letIn (IntKind.wrap .i64 (a1 + y7.1) : Int) fun n9 =>
    letIn (IntKind.wrap .i64 ((BitVec.ofInt 64 n4 &&& BitVec.ofInt 64 1).toNat : Nat) : Int) fun n10 =>
    bif n10 == 0 then (
      some (.s (.agg true [.v (.int .i64 n9), .v (.int .i64 n9)]), []))
    else
    letIn (Int.fdiv n4 2 : Int) fun n11 =>
    callT (lvl Try.prog HH (n + 0)).2 19 [.s (.one (.v (.int .i64 n11))), .s (.one (.v (.int .i64 n6)))] [] outs19 mouts19 fun y12 m13 =>
    letIn (IntKind.wrap .i64 (a1 + y12.1) : Int) fun n14 =>
    letIn (if n14 < n9 then n14 else n9 : Int) fun n15 =>
    letIn (if n14 > n9 then n14 else n9 : Int) fun n16 =>
    some (.s (.agg true [.v (.int .i64 n15), .v (.int .i64 n16)]), []) := by kernel_rfl

/-! armplan/armplanmake.Chosen -/
theorem loop18_0_w (w : CallF → CallF) (v : LoopF → LoopF) (n : Nat) (v5 : List (List D1)) (v6 : Int) (c7 : List (List D1)) (c8 : Int) (es9 : List (List D1)) : (lvlW w v symL Try.prog HH (n + 5)).1 ⟨18, 0, true⟩ 0 (loopOf Try.f18 0) (encSt S18_0 ((v5, (), (), v6, ()), ((c7, c8, ()), es9, ()))) =
    bif decide (v6 < (((v5.length : Nat) : Int))) then (
      Option.bind (
        bif decide (0 ≤ v6) then (
          (nth v5 v6.toNat).bind fun cs10 =>
          bif Nat.beq (((cs10.drop 0).drop 0).take 2).length 2 then (
            decCts [.int .i64, .int .i64] (((cs10.drop 0).drop 0).take 2) fun c11 =>
            callT (w (lvlW w v symL Try.prog HH (n + 3)).2) 28 [.s (.one (.ptr 0 0 0)), .s (.one (.v (.int .i64 1073741824)))] [.own 2 true [[.fr 1 c7, .v (.int .i64 c8)]]] outs28 mouts28 fun y12 m13 =>
            callT (w (lvlW w v symL Try.prog HH (n + 3)).2) 34 [.s (.agg true [.v (.int .i64 c11.1), .v (.int .i64 c11.2.1)]), .s (.one (.v (.int .i64 y12.1))), .s (.one (.v (.int .i64 0)))] [] outs34 mouts34 fun y14 m15 =>
            bif decide (0 ≤ v6) then (
              (nth v5 v6.toNat).bind fun cs16 =>
              bif Nat.beq (((cs16.drop 2).drop 0).take 2).length 2 then (
                decCts [.int .i64, .int .i64] (((cs16.drop 2).drop 0).take 2) fun c17 =>
                callT (w (lvlW w v symL Try.prog HH (n + 2)).2) 28 [.s (.one (.ptr 0 0 0)), .s (.one (.v (.int .i64 1073741824)))] [.own 2 true [[.fr 1 m13.1.1, .v (.int .i64 m13.1.2.1)]]] outs28 mouts28 fun y18 m19 =>
                callT (w (lvlW w v symL Try.prog HH (n + 2)).2) 34 [.s (.agg true [.v (.int .i64 c17.1), .v (.int .i64 c17.2.1)]), .s (.one (.v (.int .i64 y18.1))), .s (.one (.v (.int .i64 0)))] [] outs34 mouts34 fun y20 m21 =>
                bif decide (0 ≤ v6) then (
                  (nth v5 v6.toNat).bind fun cs22 =>
                  bif Nat.beq (((cs22.drop 4).drop 0).take 2).length 2 then (
                    decCts [.int .i64, .int .i64] (((cs22.drop 4).drop 0).take 2) fun c23 =>
                    callT (w (lvlW w v symL Try.prog HH (n + 1)).2) 28 [.s (.one (.ptr 0 0 0)), .s (.one (.v (.int .i64 1073741824)))] [.own 2 true [[.fr 1 m19.1.1, .v (.int .i64 m19.1.2.1)]]] outs28 mouts28 fun y24 m25 =>
                    callT (w (lvlW w v symL Try.prog HH (n + 1)).2) 34 [.s (.agg true [.v (.int .i64 c23.1), .v (.int .i64 c23.2.1)]), .s (.one (.v (.int .i64 y24.1))), .s (.one (.v (.int .i64 0)))] [] outs34 mouts34 fun y26 m27 =>
                    some (.exit 2, encSt S18_2_e2 ((v5, (), (), v6, (), ()), ((m25.1.1, m25.1.2.1, ()), es9, (y14.1.1, y14.1.2.1, y20.1.1, y20.1.2.1, y26.1.1, y26.1.2.1, ()), ()))))
                  else
                  none)
                else
                none)
              else
              none)
            else
            none)
          else
          none)
        else
        none) fun p28 =>
      bif sameEx (.exit 2) p28.1 then (decSt S18_2_e2 p28.2 fun x29 =>
        bif decide ((x29.2.2.1.length + 1) * 48 ≤ 140737488355328) then (
          letIn (IntKind.wrap .i64 (x29.1.2.2.2.1 + 1) : Int) fun n30 =>
          v (lvlW w v symL Try.prog HH (n + 4)).1 ⟨18, 0, true⟩ 0 (loopOf Try.f18 0) (encSt S18_0 ((x29.1.1, (), (), n30, ()), ((x29.2.1.1, x29.2.1.2.1, ()), (x29.2.2.1 ++ ([[.v (.int .i64 x29.2.2.2.1.1), .v (.int .i64 x29.2.2.2.1.2.1), .v (.int .i64 x29.2.2.2.1.2.2.1), .v (.int .i64 x29.2.2.2.1.2.2.2.1), .v (.int .i64 x29.2.2.2.1.2.2.2.2.1), .v (.int .i64 x29.2.2.2.1.2.2.2.2.2.1)]] : List (List D1))), ()))))
        else
        none)
      else
      none)
    else
    some (.exit 0, encSt S18_0_e0 (((), ()), (es9, ()))) := by kernel_rfl
theorem loop18_0 (n : Nat) (v5 : List (List D1)) (v6 : Int) (c7 : List (List D1)) (c8 : Int) (es9 : List (List D1)) : (lvl Try.prog HH (n + 5)).1 ⟨18, 0, true⟩ 0 (loopOf Try.f18 0) (encSt S18_0 ((v5, (), (), v6, ()), ((c7, c8, ()), es9, ()))) =
    bif decide (v6 < (((v5.length : Nat) : Int))) then (
      Option.bind (
        bif decide (0 ≤ v6) then (
          (nth v5 v6.toNat).bind fun cs10 =>
          bif Nat.beq (((cs10.drop 0).drop 0).take 2).length 2 then (
            decCts [.int .i64, .int .i64] (((cs10.drop 0).drop 0).take 2) fun c11 =>
            callT (lvl Try.prog HH (n + 3)).2 28 [.s (.one (.ptr 0 0 0)), .s (.one (.v (.int .i64 1073741824)))] [.own 2 true [[.fr 1 c7, .v (.int .i64 c8)]]] outs28 mouts28 fun y12 m13 =>
            callT (lvl Try.prog HH (n + 3)).2 34 [.s (.agg true [.v (.int .i64 c11.1), .v (.int .i64 c11.2.1)]), .s (.one (.v (.int .i64 y12.1))), .s (.one (.v (.int .i64 0)))] [] outs34 mouts34 fun y14 m15 =>
            bif decide (0 ≤ v6) then (
              (nth v5 v6.toNat).bind fun cs16 =>
              bif Nat.beq (((cs16.drop 2).drop 0).take 2).length 2 then (
                decCts [.int .i64, .int .i64] (((cs16.drop 2).drop 0).take 2) fun c17 =>
                callT (lvl Try.prog HH (n + 2)).2 28 [.s (.one (.ptr 0 0 0)), .s (.one (.v (.int .i64 1073741824)))] [.own 2 true [[.fr 1 m13.1.1, .v (.int .i64 m13.1.2.1)]]] outs28 mouts28 fun y18 m19 =>
                callT (lvl Try.prog HH (n + 2)).2 34 [.s (.agg true [.v (.int .i64 c17.1), .v (.int .i64 c17.2.1)]), .s (.one (.v (.int .i64 y18.1))), .s (.one (.v (.int .i64 0)))] [] outs34 mouts34 fun y20 m21 =>
                bif decide (0 ≤ v6) then (
                  (nth v5 v6.toNat).bind fun cs22 =>
                  bif Nat.beq (((cs22.drop 4).drop 0).take 2).length 2 then (
                    decCts [.int .i64, .int .i64] (((cs22.drop 4).drop 0).take 2) fun c23 =>
                    callT (lvl Try.prog HH (n + 1)).2 28 [.s (.one (.ptr 0 0 0)), .s (.one (.v (.int .i64 1073741824)))] [.own 2 true [[.fr 1 m19.1.1, .v (.int .i64 m19.1.2.1)]]] outs28 mouts28 fun y24 m25 =>
                    callT (lvl Try.prog HH (n + 1)).2 34 [.s (.agg true [.v (.int .i64 c23.1), .v (.int .i64 c23.2.1)]), .s (.one (.v (.int .i64 y24.1))), .s (.one (.v (.int .i64 0)))] [] outs34 mouts34 fun y26 m27 =>
                    some (.exit 2, encSt S18_2_e2 ((v5, (), (), v6, (), ()), ((m25.1.1, m25.1.2.1, ()), es9, (y14.1.1, y14.1.2.1, y20.1.1, y20.1.2.1, y26.1.1, y26.1.2.1, ()), ()))))
                  else
                  none)
                else
                none)
              else
              none)
            else
            none)
          else
          none)
        else
        none) fun p28 =>
      bif sameEx (.exit 2) p28.1 then (decSt S18_2_e2 p28.2 fun x29 =>
        bif decide ((x29.2.2.1.length + 1) * 48 ≤ 140737488355328) then (
          letIn (IntKind.wrap .i64 (x29.1.2.2.2.1 + 1) : Int) fun n30 =>
          (lvl Try.prog HH (n + 4)).1 ⟨18, 0, true⟩ 0 (loopOf Try.f18 0) (encSt S18_0 ((x29.1.1, (), (), n30, ()), ((x29.2.1.1, x29.2.1.2.1, ()), (x29.2.2.1 ++ ([[.v (.int .i64 x29.2.2.2.1.1), .v (.int .i64 x29.2.2.2.1.2.1), .v (.int .i64 x29.2.2.2.1.2.2.1), .v (.int .i64 x29.2.2.2.1.2.2.2.1), .v (.int .i64 x29.2.2.2.1.2.2.2.2.1), .v (.int .i64 x29.2.2.2.1.2.2.2.2.2.1)]] : List (List D1))), ()))))
        else
        none)
      else
      none)
    else
    some (.exit 0, encSt S18_0_e0 (((), ()), (es9, ()))) := by
  have h := loop18_0_w (fun x => x) (fun x => x) n v5 v6 c7 c8 es9
  rw [lvlW_id] at h
  exact h

theorem fn18 (n : Nat) (l1 : List (List D1)) (m2 : List (List D1)) : (lvl Try.prog HH (n + 1)).2 18 [.s (.one (.fr 6 l1)), .s (.one (.fr 1 m2))] [] =
    callT (lvl Try.prog HH (n + 0)).2 26 [.s (.one (.fr 1 m2))] [] outs26 mouts26 fun y3 m4 =>
    ((lvl Try.prog HH (n + 0)).1 ⟨18, 0, true⟩ 0 (loopOf Try.f18 0) (encSt S18_0 ((l1, (), (), 0, ()), ((m4.1.1, m4.1.2.1, ()), [], ())))).bind fun p31 =>
    bif sameEx (.exit 0) p31.1 then (decSt S18_0_e0 p31.2 fun x32 =>
      some (.s (.one (.fr 6 x32.2.1)), []))
    else
    none := by kernel_rfl

/-! armplan/armplanlaw16.OverlapMonotone -/
theorem fn5_w (w : CallF → CallF) (v : LoopF → LoopF) (n : Nat) (l1 : List (List D1)) (m2 : List (List D1)) (w3 : List (List D1)) (o4 : List (List D1)) (r5 : List (List D1)) (p6 : Int) (q7 : Int) : (lvlW w v symL Try.prog HH (n + 1)).2 5 [.s (.one (.fr 1 l1)), .s (.one (.fr 1 m2)), .s (.one (.fr 1 w3)), .s (.one (.fr 1 o4)), .s (.one (.fr 1 r5)), .s (.one (.v (.int .i64 p6))), .s (.one (.v (.int .i64 q7)))] [] =
    callT (w (lvlW w v symL Try.prog HH (n + 0)).2) 10 [.s (.one (.fr 1 l1)), .s (.one (.v (.int .i64 3000)))] [] outs10 mouts10 fun y8 m9 =>
    callT (w (lvlW w v symL Try.prog HH (n + 0)).2) 10 [.s (.one (.fr 1 m2)), .s (.one (.v (.int .i64 3000)))] [] outs10 mouts10 fun y10 m11 =>
    callT (w (lvlW w v symL Try.prog HH (n + 0)).2) 11 [.s (.one (.v (.int .i64 (((y8.1.length : Nat) : Int))))), .s (.one (.v (.int .i64 (((y10.1.length : Nat) : Int))))), .s (.one (.fr 1 w3))] [] outs11 mouts11 fun y12 m13 =>
    callT (w (lvlW w v symL Try.prog HH (n + 0)).2) 14 [.s (.one (.v (.int .i64 p6)))] [] outs14 mouts14 fun y14 m15 =>
    callT (w (lvlW w v symL Try.prog HH (n + 0)).2) 14 [.s (.one (.v (.int .i64 q7)))] [] outs14 mouts14 fun y16 m17 =>
    callT (w (lvlW w v symL Try.prog HH (n + 0)).2) 17 [.s (.one (.fr 1 y12.1)), .s (.one (.fr 1 y12.2.1)), .s (.one (.fr 6 y8.1)), .s (.one (.v (.int .i64 y14.1))), .s (.one (.fr 6 y10.1)), .s (.one (.v (.int .i64 y16.1)))] [] outs17 mouts17 fun y18 m19 =>
    bif !y18.1 then (
      callT (w (lvlW w v symL Try.prog HH (n + 0)).2) 12 [] [] outs12 mouts12 fun y20 m21 =>
      some (.s (.one (.v (.bool y20.1))), []))
    else
    callT (w (lvlW w v symL Try.prog HH (n + 0)).2) 12 [] [] outs12 mouts12 fun y22 m23 =>
    bif y22.1 then (
      callT (w (lvlW w v symL Try.prog HH (n + 0)).2) 18 [.s (.one (.fr 6 y8.1)), .s (.one (.fr 1 o4))] [] outs18 mouts18 fun y24 m25 =>
      callT (w (lvlW w v symL Try.prog HH (n + 0)).2) 14 [.s (.one (.v (.int .i64 p6)))] [] outs14 mouts14 fun y26 m27 =>
      callT (w (lvlW w v symL Try.prog HH (n + 0)).2) 18 [.s (.one (.fr 6 y10.1)), .s (.one (.fr 1 r5))] [] outs18 mouts18 fun y28 m29 =>
      callT (w (lvlW w v symL Try.prog HH (n + 0)).2) 14 [.s (.one (.v (.int .i64 q7)))] [] outs14 mouts14 fun y30 m31 =>
      callT (w (lvlW w v symL Try.prog HH (n + 0)).2) 17 [.s (.one (.fr 1 y12.1)), .s (.one (.fr 1 y12.2.1)), .s (.one (.fr 6 y24.1)), .s (.one (.v (.int .i64 y26.1))), .s (.one (.fr 6 y28.1)), .s (.one (.v (.int .i64 y30.1)))] [] outs17 mouts17 fun y32 m33 =>
      some (.s (.one (.v (.bool y32.1))), []))
    else
    some (.s (.one (.v (.bool false))), []) := by kernel_rfl
theorem fn5 (n : Nat) (l1 : List (List D1)) (m2 : List (List D1)) (w3 : List (List D1)) (o4 : List (List D1)) (r5 : List (List D1)) (p6 : Int) (q7 : Int) : (lvl Try.prog HH (n + 1)).2 5 [.s (.one (.fr 1 l1)), .s (.one (.fr 1 m2)), .s (.one (.fr 1 w3)), .s (.one (.fr 1 o4)), .s (.one (.fr 1 r5)), .s (.one (.v (.int .i64 p6))), .s (.one (.v (.int .i64 q7)))] [] =
    callT (lvl Try.prog HH (n + 0)).2 10 [.s (.one (.fr 1 l1)), .s (.one (.v (.int .i64 3000)))] [] outs10 mouts10 fun y8 m9 =>
    callT (lvl Try.prog HH (n + 0)).2 10 [.s (.one (.fr 1 m2)), .s (.one (.v (.int .i64 3000)))] [] outs10 mouts10 fun y10 m11 =>
    callT (lvl Try.prog HH (n + 0)).2 11 [.s (.one (.v (.int .i64 (((y8.1.length : Nat) : Int))))), .s (.one (.v (.int .i64 (((y10.1.length : Nat) : Int))))), .s (.one (.fr 1 w3))] [] outs11 mouts11 fun y12 m13 =>
    callT (lvl Try.prog HH (n + 0)).2 14 [.s (.one (.v (.int .i64 p6)))] [] outs14 mouts14 fun y14 m15 =>
    callT (lvl Try.prog HH (n + 0)).2 14 [.s (.one (.v (.int .i64 q7)))] [] outs14 mouts14 fun y16 m17 =>
    callT (lvl Try.prog HH (n + 0)).2 17 [.s (.one (.fr 1 y12.1)), .s (.one (.fr 1 y12.2.1)), .s (.one (.fr 6 y8.1)), .s (.one (.v (.int .i64 y14.1))), .s (.one (.fr 6 y10.1)), .s (.one (.v (.int .i64 y16.1)))] [] outs17 mouts17 fun y18 m19 =>
    bif !y18.1 then (
      callT (lvl Try.prog HH (n + 0)).2 12 [] [] outs12 mouts12 fun y20 m21 =>
      some (.s (.one (.v (.bool y20.1))), []))
    else
    callT (lvl Try.prog HH (n + 0)).2 12 [] [] outs12 mouts12 fun y22 m23 =>
    bif y22.1 then (
      callT (lvl Try.prog HH (n + 0)).2 18 [.s (.one (.fr 6 y8.1)), .s (.one (.fr 1 o4))] [] outs18 mouts18 fun y24 m25 =>
      callT (lvl Try.prog HH (n + 0)).2 14 [.s (.one (.v (.int .i64 p6)))] [] outs14 mouts14 fun y26 m27 =>
      callT (lvl Try.prog HH (n + 0)).2 18 [.s (.one (.fr 6 y10.1)), .s (.one (.fr 1 r5))] [] outs18 mouts18 fun y28 m29 =>
      callT (lvl Try.prog HH (n + 0)).2 14 [.s (.one (.v (.int .i64 q7)))] [] outs14 mouts14 fun y30 m31 =>
      callT (lvl Try.prog HH (n + 0)).2 17 [.s (.one (.fr 1 y12.1)), .s (.one (.fr 1 y12.2.1)), .s (.one (.fr 6 y24.1)), .s (.one (.v (.int .i64 y26.1))), .s (.one (.fr 6 y28.1)), .s (.one (.v (.int .i64 y30.1)))] [] outs17 mouts17 fun y32 m33 =>
      some (.s (.one (.v (.bool y32.1))), []))
    else
    some (.s (.one (.v (.bool false))), []) := by
  have h := fn5_w (fun x => x) (fun x => x) n l1 m2 w3 o4 r5 p6 q7
  rw [lvlW_id] at h
  exact h

end Go.Proofs.Ytilffjjibcebmaa.Am
