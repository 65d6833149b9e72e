/- PRINTED by amprint.py: what the abstract machine answers, function by function. -/
import Derived.Test.YtilffjjibcebmaaH
import Derived.KernelRfl
set_option linter.unusedVariables false
set_option maxRecDepth 100000
namespace Go.Proofs.Ytilffjjibcebmaa.Am
open Go Go.Proofs

/-! armplan/overlap.Overlaps -/
theorem fn17 (n : Nat) (left1 : List (List D1)) (right2 : List (List D1)) (a3 : List (List D1)) (ra4 : Int) (b5 : List (List D1)) (rb6 : Int) : (lvl Try.prog HH (n + 1)).2 17 [.s (.one (.fr 1 left1)), .s (.one (.fr 1 right2)), .s (.one (.fr 6 a3)), .s (.one (.v (.int .i64 ra4))), .s (.one (.fr 6 b5)), .s (.one (.v (.int .i64 rb6)))] [] =
    callT (lvl Try.prog HH (n + 0)).2 16 [.s (.one (.fr 1 left1)), .s (.one (.fr 1 right2)), .s (.one (.fr 6 a3)), .s (.one (.v (.int .i64 ra4))), .s (.one (.fr 6 b5)), .s (.one (.v (.int .i64 rb6)))] [] outs16 mouts16 fun y7 m8 =>
    bif y7.2.1 then (
      some (.s (.one (.v (.bool (decide (y7.1 ≥ 0))))), []))
    else
    some (.s (.one (.v (.bool false))), []) := by kernel_rfl

/-! armplan/armplanref1.Clamp -/
theorem fn52 (n : Nat) (a1 : Int) : (lvl Try.prog HH (n + 1)).2 52 [.s (.one (.v (.int .i64 a1)))] [] =
    letIn (if 2147483648 < a1 then 2147483648 else a1 : Int) fun n2 =>
    letIn (if n2 > (-2147483648) then n2 else (-2147483648) : Int) fun n3 =>
    some (.s (.one (.v (.int .i64 n3))), []) := by kernel_rfl

/-! armplan/armplanref1.Of -/
theorem fn44 (n : Nat) (x1 : Int) : (lvl Try.prog HH (n + 1)).2 44 [.s (.one (.v (.int .i64 x1)))] [] =
    callT (lvl Try.prog HH (n + 0)).2 52 [.s (.one (.v (.int .i64 x1)))] [] outs52 mouts52 fun y2 m3 =>
    callT (lvl Try.prog HH (n + 0)).2 52 [.s (.one (.v (.int .i64 x1)))] [] outs52 mouts52 fun y4 m5 =>
    some (.s (.agg true [.v (.int .i64 y2.1), .v (.int .i64 y4.1)]), []) := by kernel_rfl

/-! armplan/armplanref1.Point -/
theorem fn37 (n : Nat) (v1 : Int) (v2 : Int) (v3 : Int) : (lvl Try.prog HH (n + 1)).2 37 [.s (.agg true [.v (.int .i64 v1), .v (.int .i64 v2), .v (.int .i64 v3)])] [] =
    callT (lvl Try.prog HH (n + 0)).2 44 [.s (.one (.v (.int .i64 v1)))] [] outs44 mouts44 fun y4 m5 =>
    callT (lvl Try.prog HH (n + 0)).2 44 [.s (.one (.v (.int .i64 v2)))] [] outs44 mouts44 fun y6 m7 =>
    callT (lvl Try.prog HH (n + 0)).2 44 [.s (.one (.v (.int .i64 v3)))] [] outs44 mouts44 fun y8 m9 =>
    some (.s (.agg true [.v (.int .i64 y4.1.1), .v (.int .i64 y4.1.2.1), .v (.int .i64 y6.1.1), .v (.int .i64 y6.1.2.1), .v (.int .i64 y8.1.1), .v (.int .i64 y8.1.2.1)]), []) := by kernel_rfl

/-! armplan/armplanmake.Boxed -/
theorem loop29_0 (n : Nat) (v2 : List (List D1)) (v3 : Int) (es4 : List (List D1)) : (lvl Try.prog HH (n + 1)).1 ⟨29, 0, true⟩ 0 (loopOf Try.f29 0) (encSt S29_0 ((v2, (), v3, ()), (es4, ()))) =
    bif decide (v3 < (((v2.length : Nat) : Int))) then (
      bif decide (0 ≤ v3) then (
        (nth v2 v3.toNat).bind fun cs5 =>
        bif Nat.beq ((cs5.drop 0).take 3).length 3 then (
          decCts [.int .i64, .int .i64, .int .i64] ((cs5.drop 0).take 3) fun c6 =>
          callT (lvl Try.prog HH (n + 0)).2 37 [.s (.agg true [.v (.int .i64 c6.1), .v (.int .i64 c6.2.1), .v (.int .i64 c6.2.2.1)])] [] outs37 mouts37 fun y7 m8 =>
          bif decide ((es4.length + 1) * 48 ≤ 140737488355328) then (
            letIn (IntKind.wrap .i64 (v3 + 1) : Int) fun n9 =>
            (lvl Try.prog HH (n + 0)).1 ⟨29, 0, true⟩ 0 (loopOf Try.f29 0) (encSt S29_0 ((v2, (), n9, ()), ((es4 ++ ([[.v (.int .i64 y7.1.1), .v (.int .i64 y7.1.2.1), .v (.int .i64 y7.1.2.2.1), .v (.int .i64 y7.1.2.2.2.1), .v (.int .i64 y7.1.2.2.2.2.1), .v (.int .i64 y7.1.2.2.2.2.2.1)]] : List (List D1))), ()))))
          else
          none)
        else
        none)
      else
      none)
    else
    some (.exit 0, encSt S29_0_e0 (((), ()), (es4, ()))) := by kernel_rfl

theorem fn29 (n : Nat) (l1 : List (List D1)) : (lvl Try.prog HH (n + 1)).2 29 [.s (.one (.fr 3 l1))] [] =
    ((lvl Try.prog HH (n + 0)).1 ⟨29, 0, true⟩ 0 (loopOf Try.f29 0) (encSt S29_0 ((l1, (), 0, ()), ([], ())))).bind fun p10 =>
    bif sameEx (.exit 0) p10.1 then (decSt S29_0_e0 p10.2 fun x11 =>
      some (.s (.one (.fr 6 x11.2.1)), []))
    else
    none := by kernel_rfl

/-! armplan/armplanlaw16.awake -/
theorem fn12_w (w : CallF → CallF) (n : Nat)  : (lvlW w Try.prog HH (n + 1)).2 12 [] [] =
    callT (w (lvlW w Try.prog HH (n + 0)).2) 29 [.s (.one (.fr 3 [[.v (.int .i64 0), .v (.int .i64 0), .v (.int .i64 0)]]))] [] outs29 mouts29 fun y1 m2 =>
    callT (w (lvlW w Try.prog HH (n + 0)).2) 16 [.s (.one (.fr 1 [[.v (.int .i64 1)]])), .s (.one (.fr 1 [[.v (.int .i64 1)]])), .s (.one (.fr 6 y1.1)), .s (.one (.v (.int .i64 3))), .s (.one (.fr 6 [[.v (.int .i64 3), .v (.int .i64 4), .v (.int .i64 0), .v (.int .i64 0), .v (.int .i64 0), .v (.int .i64 0)]])), .s (.one (.v (.int .i64 1)))] [] outs16 mouts16 fun y3 m4 =>
    callT (w (lvlW w Try.prog HH (n + 0)).2) 16 [.s (.one (.fr 1 [[.v (.int .i64 1)]])), .s (.one (.fr 1 [[.v (.int .i64 1)]])), .s (.one (.fr 6 y1.1)), .s (.one (.v (.int .i64 3))), .s (.one (.fr 6 [[.v (.int .i64 3), .v (.int .i64 4), .v (.int .i64 0), .v (.int .i64 0), .v (.int .i64 0), .v (.int .i64 0)]])), .s (.one (.v (.int .i64 0)))] [] outs16 mouts16 fun y5 m6 =>
    bif y3.2.1 then (
      bif y5.2.1 then (
        bif y3.1 == 0 then (
          bif y5.1 == (-1) then (
            callT (w (lvlW w Try.prog HH (n + 0)).2) 17 [.s (.one (.fr 1 [[.v (.int .i64 1)]])), .s (.one (.fr 1 [[.v (.int .i64 1)]])), .s (.one (.fr 6 y1.1)), .s (.one (.v (.int .i64 3))), .s (.one (.fr 6 [[.v (.int .i64 3), .v (.int .i64 4), .v (.int .i64 0), .v (.int .i64 0), .v (.int .i64 0), .v (.int .i64 0)]])), .s (.one (.v (.int .i64 1)))] [] outs17 mouts17 fun y7 m8 =>
            some (.s (.one (.v (.bool y7.1))), []))
          else
          some (.s (.one (.v (.bool false))), []))
        else
        some (.s (.one (.v (.bool false))), []))
      else
      some (.s (.one (.v (.bool false))), []))
    else
    some (.s (.one (.v (.bool false))), []) := by kernel_rfl
theorem fn12 (n : Nat)  : (lvl Try.prog HH (n + 1)).2 12 [] [] =
    callT (lvl Try.prog HH (n + 0)).2 29 [.s (.one (.fr 3 [[.v (.int .i64 0), .v (.int .i64 0), .v (.int .i64 0)]]))] [] outs29 mouts29 fun y1 m2 =>
    callT (lvl Try.prog HH (n + 0)).2 16 [.s (.one (.fr 1 [[.v (.int .i64 1)]])), .s (.one (.fr 1 [[.v (.int .i64 1)]])), .s (.one (.fr 6 y1.1)), .s (.one (.v (.int .i64 3))), .s (.one (.fr 6 [[.v (.int .i64 3), .v (.int .i64 4), .v (.int .i64 0), .v (.int .i64 0), .v (.int .i64 0), .v (.int .i64 0)]])), .s (.one (.v (.int .i64 1)))] [] outs16 mouts16 fun y3 m4 =>
    callT (lvl Try.prog HH (n + 0)).2 16 [.s (.one (.fr 1 [[.v (.int .i64 1)]])), .s (.one (.fr 1 [[.v (.int .i64 1)]])), .s (.one (.fr 6 y1.1)), .s (.one (.v (.int .i64 3))), .s (.one (.fr 6 [[.v (.int .i64 3), .v (.int .i64 4), .v (.int .i64 0), .v (.int .i64 0), .v (.int .i64 0), .v (.int .i64 0)]])), .s (.one (.v (.int .i64 0)))] [] outs16 mouts16 fun y5 m6 =>
    bif y3.2.1 then (
      bif y5.2.1 then (
        bif y3.1 == 0 then (
          bif y5.1 == (-1) then (
            callT (lvl Try.prog HH (n + 0)).2 17 [.s (.one (.fr 1 [[.v (.int .i64 1)]])), .s (.one (.fr 1 [[.v (.int .i64 1)]])), .s (.one (.fr 6 y1.1)), .s (.one (.v (.int .i64 3))), .s (.one (.fr 6 [[.v (.int .i64 3), .v (.int .i64 4), .v (.int .i64 0), .v (.int .i64 0), .v (.int .i64 0), .v (.int .i64 0)]])), .s (.one (.v (.int .i64 1)))] [] outs17 mouts17 fun y7 m8 =>
            some (.s (.one (.v (.bool y7.1))), []))
          else
          some (.s (.one (.v (.bool false))), []))
        else
        some (.s (.one (.v (.bool false))), []))
      else
      some (.s (.one (.v (.bool false))), []))
    else
    some (.s (.one (.v (.bool false))), []) := by
  have h := fn12_w (fun x => x) n 
  rw [lvlW_id] at h
  exact h

/-! armplan/armplanmake.Part -/
theorem fn34 (n : Nat) (a1 : Int) (a2 : Int) (m3 : Int) (n4 : Int) : (lvl Try.prog HH (n + 1)).2 34 [.s (.agg true [.v (.int .i64 a1), .v (.int .i64 a2)]), .s (.one (.v (.int .i64 m3))), .s (.one (.v (.int .i64 n4)))] [] =
    letIn (IntKind.wrap .i64 (a2 - a1) : Int) fun n5 =>
    letIn (IntKind.wrap .i64 (n5 + 1) : Int) fun n6 =>
    callT (lvl Try.prog HH (n + 0)).2 19 [.s (.one (.v (.int .i64 m3))), .s (.one (.v (.int .i64 n6)))] [] outs19 mouts19 fun y7 m8 =>
    letIn (IntKind.wrap .i64 (a1 + y7.1) : Int) fun n9 =>
    letIn (IntKind.wrap .i64 ((BitVec.ofInt 64 n4 &&& BitVec.ofInt 64 1).toNat : Nat) : Int) fun n10 =>
    bif n10 == 0 then (
      some (.s (.agg true [.v (.int .i64 n9), .v (.int .i64 n9)]), []))
    else
    letIn (Int.fdiv n4 2 : Int) fun n11 =>
    callT (lvl Try.prog HH (n + 0)).2 19 [.s (.one (.v (.int .i64 n11))), .s (.one (.v (.int .i64 n6)))] [] outs19 mouts19 fun y12 m13 =>
    letIn (IntKind.wrap .i64 (a1 + y12.1) : Int) fun n14 =>
    letIn (if n14 < n9 then n14 else n9 : Int) fun n15 =>
    letIn (if n14 > n9 then n14 else n9 : Int) fun n16 =>
    some (.s (.agg true [.v (.int .i64 n15), .v (.int .i64 n16)]), []) := by kernel_rfl

/-! armplan/armplanmake.Chosen -/
theorem loop18_0_w (w : CallF → CallF) (n : Nat) (v5 : List (List D1)) (v6 : Int) (c7 : List (List D1)) (c8 : Int) (es9 : List (List D1)) : (lvlW w Try.prog HH (n + 5)).1 ⟨18, 0, true⟩ 0 (loopOf Try.f18 0) (encSt S18_0 ((v5, (), (), v6, ()), ((c7, c8, ()), es9, ()))) =
    bif decide (v6 < (((v5.length : Nat) : Int))) then (
      Option.bind (
        bif decide (0 ≤ v6) then (
          (nth v5 v6.toNat).bind fun cs10 =>
          bif Nat.beq (((cs10.drop 0).drop 0).take 2).length 2 then (
            decCts [.int .i64, .int .i64] (((cs10.drop 0).drop 0).take 2) fun c11 =>
            callT (w (lvlW w Try.prog HH (n + 3)).2) 28 [.s (.one (.ptr 0 0 0)), .s (.one (.v (.int .i64 1073741824)))] [.own 2 true [[.fr 1 c7, .v (.int .i64 c8)]]] outs28 mouts28 fun y12 m13 =>
            callT (w (lvlW w Try.prog HH (n + 3)).2) 34 [.s (.agg true [.v (.int .i64 c11.1), .v (.int .i64 c11.2.1)]), .s (.one (.v (.int .i64 y12.1))), .s (.one (.v (.int .i64 0)))] [] outs34 mouts34 fun y14 m15 =>
            bif decide (0 ≤ v6) then (
              (nth v5 v6.toNat).bind fun cs16 =>
              bif Nat.beq (((cs16.drop 2).drop 0).take 2).length 2 then (
                decCts [.int .i64, .int .i64] (((cs16.drop 2).drop 0).take 2) fun c17 =>
                callT (w (lvlW w Try.prog HH (n + 2)).2) 28 [.s (.one (.ptr 0 0 0)), .s (.one (.v (.int .i64 1073741824)))] [.own 2 true [[.fr 1 m13.1.1, .v (.int .i64 m13.1.2.1)]]] outs28 mouts28 fun y18 m19 =>
                callT (w (lvlW w Try.prog HH (n + 2)).2) 34 [.s (.agg true [.v (.int .i64 c17.1), .v (.int .i64 c17.2.1)]), .s (.one (.v (.int .i64 y18.1))), .s (.one (.v (.int .i64 0)))] [] outs34 mouts34 fun y20 m21 =>
                bif decide (0 ≤ v6) then (
                  (nth v5 v6.toNat).bind fun cs22 =>
                  bif Nat.beq (((cs22.drop 4).drop 0).take 2).length 2 then (
                    decCts [.int .i64, .int .i64] (((cs22.drop 4).drop 0).take 2) fun c23 =>
                    callT (w (lvlW w Try.prog HH (n + 1)).2) 28 [.s (.one (.ptr 0 0 0)), .s (.one (.v (.int .i64 1073741824)))] [.own 2 true [[.fr 1 m19.1.1, .v (.int .i64 m19.1.2.1)]]] outs28 mouts28 fun y24 m25 =>
                    callT (w (lvlW w Try.prog HH (n + 1)).2) 34 [.s (.agg true [.v (.int .i64 c23.1), .v (.int .i64 c23.2.1)]), .s (.one (.v (.int .i64 y24.1))), .s (.one (.v (.int .i64 0)))] [] outs34 mouts34 fun y26 m27 =>
                    some (.exit 2, encSt S18_2_e2 ((v5, (), (), v6, (), ()), ((m25.1.1, m25.1.2.1, ()), es9, (y14.1.1, y14.1.2.1, y20.1.1, y20.1.2.1, y26.1.1, y26.1.2.1, ()), ()))))
                  else
                  none)
                else
                none)
              else
              none)
            else
            none)
          else
          none)
        else
        none) fun p28 =>
      bif sameEx (.exit 2) p28.1 then (decSt S18_2_e2 p28.2 fun x29 =>
        bif decide ((x29.2.2.1.length + 1) * 48 ≤ 140737488355328) then (
          letIn (IntKind.wrap .i64 (x29.1.2.2.2.1 + 1) : Int) fun n30 =>
          (lvlW w Try.prog HH (n + 4)).1 ⟨18, 0, true⟩ 0 (loopOf Try.f18 0) (encSt S18_0 ((x29.1.1, (), (), n30, ()), ((x29.2.1.1, x29.2.1.2.1, ()), (x29.2.2.1 ++ ([[.v (.int .i64 x29.2.2.2.1.1), .v (.int .i64 x29.2.2.2.1.2.1), .v (.int .i64 x29.2.2.2.1.2.2.1), .v (.int .i64 x29.2.2.2.1.2.2.2.1), .v (.int .i64 x29.2.2.2.1.2.2.2.2.1), .v (.int .i64 x29.2.2.2.1.2.2.2.2.2.1)]] : List (List D1))), ()))))
        else
        none)
      else
      none)
    else
    some (.exit 0, encSt S18_0_e0 (((), ()), (es9, ()))) := by kernel_rfl
theorem loop18_0 (n : Nat) (v5 : List (List D1)) (v6 : Int) (c7 : List (List D1)) (c8 : Int) (es9 : List (List D1)) : (lvl Try.prog HH (n + 5)).1 ⟨18, 0, true⟩ 0 (loopOf Try.f18 0) (encSt S18_0 ((v5, (), (), v6, ()), ((c7, c8, ()), es9, ()))) =
    bif decide (v6 < (((v5.length : Nat) : Int))) then (
      Option.bind (
        bif decide (0 ≤ v6) then (
          (nth v5 v6.toNat).bind fun cs10 =>
          bif Nat.beq (((cs10.drop 0).drop 0).take 2).length 2 then (
            decCts [.int .i64, .int .i64] (((cs10.drop 0).drop 0).take 2) fun c11 =>
            callT (lvl Try.prog HH (n + 3)).2 28 [.s (.one (.ptr 0 0 0)), .s (.one (.v (.int .i64 1073741824)))] [.own 2 true [[.fr 1 c7, .v (.int .i64 c8)]]] outs28 mouts28 fun y12 m13 =>
            callT (lvl Try.prog HH (n + 3)).2 34 [.s (.agg true [.v (.int .i64 c11.1), .v (.int .i64 c11.2.1)]), .s (.one (.v (.int .i64 y12.1))), .s (.one (.v (.int .i64 0)))] [] outs34 mouts34 fun y14 m15 =>
            bif decide (0 ≤ v6) then (
              (nth v5 v6.toNat).bind fun cs16 =>
              bif Nat.beq (((cs16.drop 2).drop 0).take 2).length 2 then (
                decCts [.int .i64, .int .i64] (((cs16.drop 2).drop 0).take 2) fun c17 =>
                callT (lvl Try.prog HH (n + 2)).2 28 [.s (.one (.ptr 0 0 0)), .s (.one (.v (.int .i64 1073741824)))] [.own 2 true [[.fr 1 m13.1.1, .v (.int .i64 m13.1.2.1)]]] outs28 mouts28 fun y18 m19 =>
                callT (lvl Try.prog HH (n + 2)).2 34 [.s (.agg true [.v (.int .i64 c17.1), .v (.int .i64 c17.2.1)]), .s (.one (.v (.int .i64 y18.1))), .s (.one (.v (.int .i64 0)))] [] outs34 mouts34 fun y20 m21 =>
                bif decide (0 ≤ v6) then (
                  (nth v5 v6.toNat).bind fun cs22 =>
                  bif Nat.beq (((cs22.drop 4).drop 0).take 2).length 2 then (
                    decCts [.int .i64, .int .i64] (((cs22.drop 4).drop 0).take 2) fun c23 =>
                    callT (lvl Try.prog HH (n + 1)).2 28 [.s (.one (.ptr 0 0 0)), .s (.one (.v (.int .i64 1073741824)))] [.own 2 true [[.fr 1 m19.1.1, .v (.int .i64 m19.1.2.1)]]] outs28 mouts28 fun y24 m25 =>
                    callT (lvl Try.prog HH (n + 1)).2 34 [.s (.agg true [.v (.int .i64 c23.1), .v (.int .i64 c23.2.1)]), .s (.one (.v (.int .i64 y24.1))), .s (.one (.v (.int .i64 0)))] [] outs34 mouts34 fun y26 m27 =>
                    some (.exit 2, encSt S18_2_e2 ((v5, (), (), v6, (), ()), ((m25.1.1, m25.1.2.1, ()), es9, (y14.1.1, y14.1.2.1, y20.1.1, y20.1.2.1, y26.1.1, y26.1.2.1, ()), ()))))
                  else
                  none)
                else
                none)
              else
              none)
            else
            none)
          else
          none)
        else
        none) fun p28 =>
      bif sameEx (.exit 2) p28.1 then (decSt S18_2_e2 p28.2 fun x29 =>
        bif decide ((x29.2.2.1.length + 1) * 48 ≤ 140737488355328) then (
          letIn (IntKind.wrap .i64 (x29.1.2.2.2.1 + 1) : Int) fun n30 =>
          (lvl Try.prog HH (n + 4)).1 ⟨18, 0, true⟩ 0 (loopOf Try.f18 0) (encSt S18_0 ((x29.1.1, (), (), n30, ()), ((x29.2.1.1, x29.2.1.2.1, ()), (x29.2.2.1 ++ ([[.v (.int .i64 x29.2.2.2.1.1), .v (.int .i64 x29.2.2.2.1.2.1), .v (.int .i64 x29.2.2.2.1.2.2.1), .v (.int .i64 x29.2.2.2.1.2.2.2.1), .v (.int .i64 x29.2.2.2.1.2.2.2.2.1), .v (.int .i64 x29.2.2.2.1.2.2.2.2.2.1)]] : List (List D1))), ()))))
        else
        none)
      else
      none)
    else
    some (.exit 0, encSt S18_0_e0 (((), ()), (es9, ()))) := by
  have h := loop18_0_w (fun x => x) n v5 v6 c7 c8 es9
  rw [lvlW_id] at h
  exact h

theorem fn18 (n : Nat) (l1 : List (List D1)) (m2 : List (List D1)) : (lvl Try.prog HH (n + 1)).2 18 [.s (.one (.fr 6 l1)), .s (.one (.fr 1 m2))] [] =
    callT (lvl Try.prog HH (n + 0)).2 26 [.s (.one (.fr 1 m2))] [] outs26 mouts26 fun y3 m4 =>
    ((lvl Try.prog HH (n + 0)).1 ⟨18, 0, true⟩ 0 (loopOf Try.f18 0) (encSt S18_0 ((l1, (), (), 0, ()), ((m4.1.1, m4.1.2.1, ()), [], ())))).bind fun p31 =>
    bif sameEx (.exit 0) p31.1 then (decSt S18_0_e0 p31.2 fun x32 =>
      some (.s (.one (.fr 6 x32.2.1)), []))
    else
    none := by kernel_rfl

end Go.Proofs.Ytilffjjibcebmaa.Am
