/- PRINTED by amprint.py: what the abstract machine answers, function by function. -/
import Derived.Test.YtilffjjibcebmaaH
import Derived.KernelRfl
set_option linter.unusedVariables false
set_option maxRecDepth 100000
namespace Go.Proofs.Ytilffjjibcebmaa.Am
open Go Go.Proofs

/-! armplan/armplanmake.From -/
theorem fn26 (n : Nat) (l1 : List (List D1)) : (lvl Try.prog HH (n + 1)).2 26 [.s (.one (.fr 1 l1))] [] =
    some (.s (.one (.ptr 0 0 0)), [.own 2 true [[.fr 1 l1, .v (.int .i64 0)]]]) := by kernel_rfl

/-! armplan/armplanmake.Round -/
theorem fn19 (n : Nat) (n1 : Int) (k2 : Int) : (lvl Try.prog HH (n + 1)).2 19 [.s (.one (.v (.int .i64 n1))), .s (.one (.v (.int .i64 k2)))] [] =
    bif k2 == 0 then (
      none)
    else
    letIn (Int.tmod n1 k2 : Int) fun n3 =>
    bif decide (n3 < 0) then (
      letIn (IntKind.wrap .i64 (n3 + k2) : Int) fun n4 =>
      some (.s (.one (.v (.int .i64 n4))), []))
    else
    some (.s (.one (.v (.int .i64 n3))), []) := by kernel_rfl

/-! (*armplan/armplanmake.Source).Next -/
theorem fn28s0 (n : Nat) (k1 : Int) (c2 : List (List D1)) (c3 : Int) : (lvl Try.prog HH (n + 1)).2 28 [.s (.one (.ptr 0 0 0)), .s (.one (.v (.int .i64 k1)))] [.own 2 true [[.fr 1 c2, .v (.int .i64 c3)]]] =
    bif decide (c3 ≥ (((c2.length : Nat) : Int))) then (
      some (.s (.one (.v (.int .i64 0))), [.own 2 true [[.fr 1 c2, .v (.int .i64 c3)]]]))
    else
    letIn (IntKind.wrap .i64 (c3 + 1) : Int) fun n4 =>
    letIn (IntKind.wrap .i64 (n4 - 1) : Int) fun n5 =>
    bif decide (0 ≤ n5) then (
      (nth c2 n5.toNat).bind fun cs6 =>
      (nth cs6 0).bind fun d7 =>
      (asInt? .i64 d7).bind fun n8 =>
      callT (lvl Try.prog HH (n + 0)).2 19 [.s (.one (.v (.int .i64 n8))), .s (.one (.v (.int .i64 k1)))] [] outs19 mouts19 fun y9 m10 =>
      some (.s (.one (.v (.int .i64 y9.1))), [.own 2 true [[.fr 1 c2, .v (.int .i64 n4)]]]))
    else
    none := by kernel_rfl

/-! (*armplan/armplanmake.Source).Signed -/
theorem fn27s0 (n : Nat) (k1 : Int) (c2 : List (List D1)) (c3 : Int) : (lvl Try.prog HH (n + 1)).2 27 [.s (.one (.ptr 0 0 0)), .s (.one (.v (.int .i64 k1)))] [.own 2 true [[.fr 1 c2, .v (.int .i64 c3)]]] =
    letIn (IntKind.wrap .i64 (2 * k1) : Int) fun n4 =>
    letIn (IntKind.wrap .i64 (n4 + 1) : Int) fun n5 =>
    callT (lvl Try.prog HH (n + 0)).2 28 [.s (.one (.ptr 0 0 0)), .s (.one (.v (.int .i64 n5)))] [.own 2 true [[.fr 1 c2, .v (.int .i64 c3)]]] outs28 mouts28 fun y6 m7 =>
    letIn (IntKind.wrap .i64 (y6.1 - k1) : Int) fun n8 =>
    some (.s (.one (.v (.int .i64 n8))), [.own 2 true [[.fr 1 m7.1.1, .v (.int .i64 m7.1.2.1)]]]) := by kernel_rfl

/-! armplan/armplanmake.Points -/
theorem loop10_0_w (w : CallF → CallF) (v : LoopF → LoopF) (n : Nat) (v17 : Int) (v18 : Int) (c19 : List (List D1)) (c20 : Int) (c21 : Int) (c22 : Int) (c23 : Int) (es24 : List (List D1)) : (lvlW w v symL Try.prog HH (n + 5)).1 ⟨10, 0, true⟩ 0 (loopOf Try.f10 0) (encSt S10_0 ((v17, (), (), (), v18, ()), ((c19, c20, ()), (c21, c22, c23, ()), es24, ()))) =
    bif decide (v18 > 0) then (
      Option.bind (
        callT (w (lvlW w v symL Try.prog HH (n + 3)).2) 27 [.s (.one (.ptr 0 0 0)), .s (.one (.v (.int .i64 4)))] [.own 2 true [[.fr 1 c19, .v (.int .i64 c20)]]] outs27 mouts27 fun y25 m26 =>
        letIn (IntKind.wrap .i64 (y25.1 * 32768) : Int) fun n27 =>
        letIn (IntKind.wrap .i64 (c21 + n27) : Int) fun n28 =>
        callT (w (lvlW w v symL Try.prog HH (n + 3)).2) 27 [.s (.one (.ptr 0 0 0)), .s (.one (.v (.int .i64 9)))] [.own 2 true [[.fr 1 m26.1.1, .v (.int .i64 m26.1.2.1)]]] outs27 mouts27 fun y29 m30 =>
        letIn (IntKind.wrap .i64 (n28 + y29.1) : Int) fun n31 =>
        letIn (IntKind.wrap .i64 (v17 + 1) : Int) fun n32 =>
        callT (w (lvlW w v symL Try.prog HH (n + 3)).2) 28 [.s (.one (.ptr 0 0 0)), .s (.one (.v (.int .i64 n32)))] [.own 2 true [[.fr 1 m30.1.1, .v (.int .i64 m30.1.2.1)]]] outs28 mouts28 fun y33 m34 =>
        letIn (IntKind.wrap .i64 (n31 + y33.1) : Int) fun n35 =>
        callT (w (lvlW w v symL Try.prog HH (n + 2)).2) 27 [.s (.one (.ptr 0 0 0)), .s (.one (.v (.int .i64 4)))] [.own 2 true [[.fr 1 m34.1.1, .v (.int .i64 m34.1.2.1)]]] outs27 mouts27 fun y36 m37 =>
        letIn (IntKind.wrap .i64 (y36.1 * 32768) : Int) fun n38 =>
        letIn (IntKind.wrap .i64 (c22 + n38) : Int) fun n39 =>
        callT (w (lvlW w v symL Try.prog HH (n + 2)).2) 27 [.s (.one (.ptr 0 0 0)), .s (.one (.v (.int .i64 9)))] [.own 2 true [[.fr 1 m37.1.1, .v (.int .i64 m37.1.2.1)]]] outs27 mouts27 fun y40 m41 =>
        letIn (IntKind.wrap .i64 (n39 + y40.1) : Int) fun n42 =>
        letIn (IntKind.wrap .i64 (v17 + 1) : Int) fun n43 =>
        callT (w (lvlW w v symL Try.prog HH (n + 2)).2) 28 [.s (.one (.ptr 0 0 0)), .s (.one (.v (.int .i64 n43)))] [.own 2 true [[.fr 1 m41.1.1, .v (.int .i64 m41.1.2.1)]]] outs28 mouts28 fun y44 m45 =>
        letIn (IntKind.wrap .i64 (n42 + y44.1) : Int) fun n46 =>
        callT (w (lvlW w v symL Try.prog HH (n + 1)).2) 27 [.s (.one (.ptr 0 0 0)), .s (.one (.v (.int .i64 4)))] [.own 2 true [[.fr 1 m45.1.1, .v (.int .i64 m45.1.2.1)]]] outs27 mouts27 fun y47 m48 =>
        letIn (IntKind.wrap .i64 (y47.1 * 32768) : Int) fun n49 =>
        letIn (IntKind.wrap .i64 (c23 + n49) : Int) fun n50 =>
        callT (w (lvlW w v symL Try.prog HH (n + 1)).2) 27 [.s (.one (.ptr 0 0 0)), .s (.one (.v (.int .i64 9)))] [.own 2 true [[.fr 1 m48.1.1, .v (.int .i64 m48.1.2.1)]]] outs27 mouts27 fun y51 m52 =>
        letIn (IntKind.wrap .i64 (n50 + y51.1) : Int) fun n53 =>
        letIn (IntKind.wrap .i64 (v17 + 1) : Int) fun n54 =>
        callT (w (lvlW w v symL Try.prog HH (n + 1)).2) 28 [.s (.one (.ptr 0 0 0)), .s (.one (.v (.int .i64 n54)))] [.own 2 true [[.fr 1 m52.1.1, .v (.int .i64 m52.1.2.1)]]] outs28 mouts28 fun y55 m56 =>
        letIn (IntKind.wrap .i64 (n53 + y55.1) : Int) fun n57 =>
        some (.exit 2, encSt S10_2_e2 ((v17, (), (), (), v18, (), ()), ((m56.1.1, m56.1.2.1, ()), (c21, c22, c23, ()), es24, (n31, n35, n42, n46, n53, n57, ()), ())))) fun p58 =>
      bif sameEx (.exit 2) p58.1 then (decSt S10_2_e2 p58.2 fun x59 =>
        bif decide ((x59.2.2.2.1.length + 1) * 48 ≤ 140737488355328) then (
          letIn (IntKind.wrap .i64 (x59.1.2.2.2.2.1 - 1) : Int) fun n60 =>
          v (lvlW w v symL Try.prog HH (n + 4)).1 ⟨10, 0, true⟩ 0 (loopOf Try.f10 0) (encSt S10_0 ((x59.1.1, (), (), (), n60, ()), ((x59.2.1.1, x59.2.1.2.1, ()), (x59.2.2.1.1, x59.2.2.1.2.1, x59.2.2.1.2.2.1, ()), (x59.2.2.2.1 ++ ([[.v (.int .i64 x59.2.2.2.2.1.1), .v (.int .i64 x59.2.2.2.2.1.2.1), .v (.int .i64 x59.2.2.2.2.1.2.2.1), .v (.int .i64 x59.2.2.2.2.1.2.2.2.1), .v (.int .i64 x59.2.2.2.2.1.2.2.2.2.1), .v (.int .i64 x59.2.2.2.2.1.2.2.2.2.2.1)]] : List (List D1))), ()))))
        else
        none)
      else
      none)
    else
    some (.exit 0, encSt S10_0_e0 (((), ()), (es24, ()))) := by kernel_rfl
theorem loop10_0 (n : Nat) (v17 : Int) (v18 : Int) (c19 : List (List D1)) (c20 : Int) (c21 : Int) (c22 : Int) (c23 : Int) (es24 : List (List D1)) : (lvl Try.prog HH (n + 5)).1 ⟨10, 0, true⟩ 0 (loopOf Try.f10 0) (encSt S10_0 ((v17, (), (), (), v18, ()), ((c19, c20, ()), (c21, c22, c23, ()), es24, ()))) =
    bif decide (v18 > 0) then (
      Option.bind (
        callT (lvl Try.prog HH (n + 3)).2 27 [.s (.one (.ptr 0 0 0)), .s (.one (.v (.int .i64 4)))] [.own 2 true [[.fr 1 c19, .v (.int .i64 c20)]]] outs27 mouts27 fun y25 m26 =>
        letIn (IntKind.wrap .i64 (y25.1 * 32768) : Int) fun n27 =>
        letIn (IntKind.wrap .i64 (c21 + n27) : Int) fun n28 =>
        callT (lvl Try.prog HH (n + 3)).2 27 [.s (.one (.ptr 0 0 0)), .s (.one (.v (.int .i64 9)))] [.own 2 true [[.fr 1 m26.1.1, .v (.int .i64 m26.1.2.1)]]] outs27 mouts27 fun y29 m30 =>
        letIn (IntKind.wrap .i64 (n28 + y29.1) : Int) fun n31 =>
        letIn (IntKind.wrap .i64 (v17 + 1) : Int) fun n32 =>
        callT (lvl Try.prog HH (n + 3)).2 28 [.s (.one (.ptr 0 0 0)), .s (.one (.v (.int .i64 n32)))] [.own 2 true [[.fr 1 m30.1.1, .v (.int .i64 m30.1.2.1)]]] outs28 mouts28 fun y33 m34 =>
        letIn (IntKind.wrap .i64 (n31 + y33.1) : Int) fun n35 =>
        callT (lvl Try.prog HH (n + 2)).2 27 [.s (.one (.ptr 0 0 0)), .s (.one (.v (.int .i64 4)))] [.own 2 true [[.fr 1 m34.1.1, .v (.int .i64 m34.1.2.1)]]] outs27 mouts27 fun y36 m37 =>
        letIn (IntKind.wrap .i64 (y36.1 * 32768) : Int) fun n38 =>
        letIn (IntKind.wrap .i64 (c22 + n38) : Int) fun n39 =>
        callT (lvl Try.prog HH (n + 2)).2 27 [.s (.one (.ptr 0 0 0)), .s (.one (.v (.int .i64 9)))] [.own 2 true [[.fr 1 m37.1.1, .v (.int .i64 m37.1.2.1)]]] outs27 mouts27 fun y40 m41 =>
        letIn (IntKind.wrap .i64 (n39 + y40.1) : Int) fun n42 =>
        letIn (IntKind.wrap .i64 (v17 + 1) : Int) fun n43 =>
        callT (lvl Try.prog HH (n + 2)).2 28 [.s (.one (.ptr 0 0 0)), .s (.one (.v (.int .i64 n43)))] [.own 2 true [[.fr 1 m41.1.1, .v (.int .i64 m41.1.2.1)]]] outs28 mouts28 fun y44 m45 =>
        letIn (IntKind.wrap .i64 (n42 + y44.1) : Int) fun n46 =>
        callT (lvl Try.prog HH (n + 1)).2 27 [.s (.one (.ptr 0 0 0)), .s (.one (.v (.int .i64 4)))] [.own 2 true [[.fr 1 m45.1.1, .v (.int .i64 m45.1.2.1)]]] outs27 mouts27 fun y47 m48 =>
        letIn (IntKind.wrap .i64 (y47.1 * 32768) : Int) fun n49 =>
        letIn (IntKind.wrap .i64 (c23 + n49) : Int) fun n50 =>
        callT (lvl Try.prog HH (n + 1)).2 27 [.s (.one (.ptr 0 0 0)), .s (.one (.v (.int .i64 9)))] [.own 2 true [[.fr 1 m48.1.1, .v (.int .i64 m48.1.2.1)]]] outs27 mouts27 fun y51 m52 =>
        letIn (IntKind.wrap .i64 (n50 + y51.1) : Int) fun n53 =>
        letIn (IntKind.wrap .i64 (v17 + 1) : Int) fun n54 =>
        callT (lvl Try.prog HH (n + 1)).2 28 [.s (.one (.ptr 0 0 0)), .s (.one (.v (.int .i64 n54)))] [.own 2 true [[.fr 1 m52.1.1, .v (.int .i64 m52.1.2.1)]]] outs28 mouts28 fun y55 m56 =>
        letIn (IntKind.wrap .i64 (n53 + y55.1) : Int) fun n57 =>
        some (.exit 2, encSt S10_2_e2 ((v17, (), (), (), v18, (), ()), ((m56.1.1, m56.1.2.1, ()), (c21, c22, c23, ()), es24, (n31, n35, n42, n46, n53, n57, ()), ())))) fun p58 =>
      bif sameEx (.exit 2) p58.1 then (decSt S10_2_e2 p58.2 fun x59 =>
        bif decide ((x59.2.2.2.1.length + 1) * 48 ≤ 140737488355328) then (
          letIn (IntKind.wrap .i64 (x59.1.2.2.2.2.1 - 1) : Int) fun n60 =>
          (lvl Try.prog HH (n + 4)).1 ⟨10, 0, true⟩ 0 (loopOf Try.f10 0) (encSt S10_0 ((x59.1.1, (), (), (), n60, ()), ((x59.2.1.1, x59.2.1.2.1, ()), (x59.2.2.1.1, x59.2.2.1.2.1, x59.2.2.1.2.2.1, ()), (x59.2.2.2.1 ++ ([[.v (.int .i64 x59.2.2.2.2.1.1), .v (.int .i64 x59.2.2.2.2.1.2.1), .v (.int .i64 x59.2.2.2.2.1.2.2.1), .v (.int .i64 x59.2.2.2.2.1.2.2.2.1), .v (.int .i64 x59.2.2.2.2.1.2.2.2.2.1), .v (.int .i64 x59.2.2.2.2.1.2.2.2.2.2.1)]] : List (List D1))), ()))))
        else
        none)
      else
      none)
    else
    some (.exit 0, encSt S10_0_e0 (((), ()), (es24, ()))) := by
  have h := loop10_0_w (fun x => x) (fun x => x) n v17 v18 c19 c20 c21 c22 c23 es24
  rw [lvlW_id] at h
  exact h

theorem fn10_w (w : CallF → CallF) (v : LoopF → LoopF) (n : Nat) (l1 : List (List D1)) (width2 : Int) : (lvlW w v symL Try.prog HH (n + 1)).2 10 [.s (.one (.fr 1 l1)), .s (.one (.v (.int .i64 width2)))] [] =
    callT (w (lvlW w v symL Try.prog HH (n + 0)).2) 26 [.s (.one (.fr 1 l1))] [] outs26 mouts26 fun y3 m4 =>
    callT (w (lvlW w v symL Try.prog HH (n + 0)).2) 27 [.s (.one (.ptr 0 0 0)), .s (.one (.v (.int .i64 6)))] [.own 2 true [[.fr 1 m4.1.1, .v (.int .i64 m4.1.2.1)]]] outs27 mouts27 fun y5 m6 =>
    letIn (IntKind.wrap .i64 (y5.1 * 32768) : Int) fun n7 =>
    callT (w (lvlW w v symL Try.prog HH (n + 0)).2) 27 [.s (.one (.ptr 0 0 0)), .s (.one (.v (.int .i64 6)))] [.own 2 true [[.fr 1 m6.1.1, .v (.int .i64 m6.1.2.1)]]] outs27 mouts27 fun y8 m9 =>
    letIn (IntKind.wrap .i64 (y8.1 * 32768) : Int) fun n10 =>
    callT (w (lvlW w v symL Try.prog HH (n + 0)).2) 27 [.s (.one (.ptr 0 0 0)), .s (.one (.v (.int .i64 3)))] [.own 2 true [[.fr 1 m9.1.1, .v (.int .i64 m9.1.2.1)]]] outs27 mouts27 fun y11 m12 =>
    letIn (IntKind.wrap .i64 (y11.1 * 32768) : Int) fun n13 =>
    callT (w (lvlW w v symL Try.prog HH (n + 0)).2) 28 [.s (.one (.ptr 0 0 0)), .s (.one (.v (.int .i64 5)))] [.own 2 true [[.fr 1 m12.1.1, .v (.int .i64 m12.1.2.1)]]] outs28 mouts28 fun y14 m15 =>
    letIn (IntKind.wrap .i64 (1 + y14.1) : Int) fun n16 =>
    (v (lvlW w v symL Try.prog HH (n + 0)).1 ⟨10, 0, true⟩ 0 (loopOf Try.f10 0) (encSt S10_0 ((width2, (), (), (), n16, ()), ((m15.1.1, m15.1.2.1, ()), (n7, n10, n13, ()), [], ())))).bind fun p61 =>
    bif sameEx (.exit 0) p61.1 then (decSt S10_0_e0 p61.2 fun x62 =>
      some (.s (.one (.fr 6 x62.2.1)), []))
    else
    none := by kernel_rfl
theorem fn10 (n : Nat) (l1 : List (List D1)) (width2 : Int) : (lvl Try.prog HH (n + 1)).2 10 [.s (.one (.fr 1 l1)), .s (.one (.v (.int .i64 width2)))] [] =
    callT (lvl Try.prog HH (n + 0)).2 26 [.s (.one (.fr 1 l1))] [] outs26 mouts26 fun y3 m4 =>
    callT (lvl Try.prog HH (n + 0)).2 27 [.s (.one (.ptr 0 0 0)), .s (.one (.v (.int .i64 6)))] [.own 2 true [[.fr 1 m4.1.1, .v (.int .i64 m4.1.2.1)]]] outs27 mouts27 fun y5 m6 =>
    letIn (IntKind.wrap .i64 (y5.1 * 32768) : Int) fun n7 =>
    callT (lvl Try.prog HH (n + 0)).2 27 [.s (.one (.ptr 0 0 0)), .s (.one (.v (.int .i64 6)))] [.own 2 true [[.fr 1 m6.1.1, .v (.int .i64 m6.1.2.1)]]] outs27 mouts27 fun y8 m9 =>
    letIn (IntKind.wrap .i64 (y8.1 * 32768) : Int) fun n10 =>
    callT (lvl Try.prog HH (n + 0)).2 27 [.s (.one (.ptr 0 0 0)), .s (.one (.v (.int .i64 3)))] [.own 2 true [[.fr 1 m9.1.1, .v (.int .i64 m9.1.2.1)]]] outs27 mouts27 fun y11 m12 =>
    letIn (IntKind.wrap .i64 (y11.1 * 32768) : Int) fun n13 =>
    callT (lvl Try.prog HH (n + 0)).2 28 [.s (.one (.ptr 0 0 0)), .s (.one (.v (.int .i64 5)))] [.own 2 true [[.fr 1 m12.1.1, .v (.int .i64 m12.1.2.1)]]] outs28 mouts28 fun y14 m15 =>
    letIn (IntKind.wrap .i64 (1 + y14.1) : Int) fun n16 =>
    ((lvl Try.prog HH (n + 0)).1 ⟨10, 0, true⟩ 0 (loopOf Try.f10 0) (encSt S10_0 ((width2, (), (), (), n16, ()), ((m15.1.1, m15.1.2.1, ()), (n7, n10, n13, ()), [], ())))).bind fun p61 =>
    bif sameEx (.exit 0) p61.1 then (decSt S10_0_e0 p61.2 fun x62 =>
      some (.s (.one (.fr 6 x62.2.1)), []))
    else
    none := by
  have h := fn10_w (fun x => x) (fun x => x) n l1 width2
  rw [lvlW_id] at h
  exact h

/-! armplan/armplanmake.Weights -/
theorem loop15_0 (n : Nat) (v5 : Int) (v6 : Int) (c7 : List (List D1)) (c8 : Int) (es9 : List (List D1)) : (lvl Try.prog HH (n + 1)).1 ⟨15, 0, true⟩ 0 (loopOf Try.f15 0) (encSt S15_0 ((v5, (), (), v6, ()), ((c7, c8, ()), es9, ()))) =
    bif decide (v6 < v5) then (
      callT (lvl Try.prog HH (n + 0)).2 28 [.s (.one (.ptr 0 0 0)), .s (.one (.v (.int .i64 9)))] [.own 2 true [[.fr 1 c7, .v (.int .i64 c8)]]] outs28 mouts28 fun y10 m11 =>
      bif decide ((es9.length + 1) * 8 ≤ 140737488355328) then (
        letIn (IntKind.wrap .i64 (v6 + 1) : Int) fun n12 =>
        (lvl Try.prog HH (n + 0)).1 ⟨15, 0, true⟩ 0 (loopOf Try.f15 0) (encSt S15_0 ((v5, (), (), n12, ()), ((m11.1.1, m11.1.2.1, ()), (es9 ++ ([[.v (.int .i64 y10.1)]] : List (List D1))), ()))))
      else
      none)
    else
    some (.exit 0, encSt S15_0_e0 ((v5, (), (), ()), ((c7, c8, ()), es9, ()))) := by kernel_rfl

theorem fn15 (n : Nat) (n1 : Int) (l2 : List (List D1)) : (lvl Try.prog HH (n + 1)).2 15 [.s (.one (.v (.int .i64 n1))), .s (.one (.fr 1 l2))] [] =
    callT (lvl Try.prog HH (n + 0)).2 26 [.s (.one (.fr 1 l2))] [] outs26 mouts26 fun y3 m4 =>
    ((lvl Try.prog HH (n + 0)).1 ⟨15, 0, true⟩ 0 (loopOf Try.f15 0) (encSt S15_0 ((n1, (), (), 0, ()), ((m4.1.1, m4.1.2.1, ()), [], ())))).bind fun p13 =>
    bif sameEx (.exit 0) p13.1 then (decSt S15_0_e0 p13.2 fun x14 =>
      bif decide (x14.1.1 > 0) then (
        callT (lvl Try.prog HH (n + 0)).2 28 [.s (.one (.ptr 0 0 0)), .s (.one (.v (.int .i64 x14.1.1)))] [.own 2 true [[.fr 1 x14.2.1.1, .v (.int .i64 x14.2.1.2.1)]]] outs28 mouts28 fun y15 m16 =>
        bif decide (0 ≤ y15.1) then (
          (nth x14.2.2.1 y15.1.toNat).bind fun cs17 =>
          (nth x14.2.2.1 y15.1.toNat).bind fun cs18 =>
          (nth cs18 0).bind fun d19 =>
          (asInt? .i64 d19).bind fun n20 =>
          letIn (IntKind.wrap .i64 (n20 + 1) : Int) fun n21 =>
          bif decide (0 ≤ y15.1) then (
            (nth x14.2.2.1 y15.1.toNat).bind fun cs22 =>
            (nth x14.2.2.1 y15.1.toNat).bind fun cs23 =>
            (setCells cs23 0 [.v (.int .i64 n21)]).bind fun cs24 =>
            some (.s (.one (.fs 0)), [.own 1 true (upd x14.2.2.1 y15.1.toNat cs24)]))
          else
          none)
        else
        none)
      else
      some (.s (.one (.fs 0)), [.own 1 true x14.2.2.1]))
    else
    none := by kernel_rfl

end Go.Proofs.Ytilffjjibcebmaa.Am
