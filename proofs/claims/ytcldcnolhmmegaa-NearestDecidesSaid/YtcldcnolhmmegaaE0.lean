/- PRINTED by amprint.py: what the abstract machine answers, function by function. -/
import Derived.Test.YtcldcnolhmmegaaH
import Derived.KernelRfl
set_option linter.unusedVariables false
set_option maxRecDepth 100000
namespace Go.Proofs.Ytcldcnolhmmegaa.Am
open Go Go.Proofs

/-! armplan/armplanmake.From -/
theorem fn37 (n : Nat) (l1 : List (List D1)) : (lvl Try.prog HH (n + 1)).2 37 [.s (.one (.fr 1 l1))] [] =
    some (.s (.one (.ptr 0 0 0)), [.own 2 true [[.fr 1 l1, .v (.int .i64 0)]]]) := by kernel_rfl

/-! armplan/armplanmake.Round -/
theorem fn11 (n : Nat) (n1 : Int) (k2 : Int) : (lvl Try.prog HH (n + 1)).2 11 [.s (.one (.v (.int .i64 n1))), .s (.one (.v (.int .i64 k2)))] [] =
    bif k2 == 0 then (
      none)
    else
    letIn (Int.tmod n1 k2 : Int) fun n3 =>
    bif decide (n3 < 0) then (
      letIn (IntKind.wrap .i64 (n3 + k2) : Int) fun n4 =>
      some (.s (.one (.v (.int .i64 n4))), []))
    else
    some (.s (.one (.v (.int .i64 n3))), []) := by kernel_rfl

/-! (*armplan/armplanmake.Source).Next -/
theorem fn39s0 (n : Nat) (k1 : Int) (c2 : List (List D1)) (c3 : Int) : (lvl Try.prog HH (n + 1)).2 39 [.s (.one (.ptr 0 0 0)), .s (.one (.v (.int .i64 k1)))] [.own 2 true [[.fr 1 c2, .v (.int .i64 c3)]]] =
    bif decide (c3 ≥ (((c2.length : Nat) : Int))) then (
      some (.s (.one (.v (.int .i64 0))), [.own 2 true [[.fr 1 c2, .v (.int .i64 c3)]]]))
    else
    letIn (IntKind.wrap .i64 (c3 + 1) : Int) fun n4 =>
    letIn (IntKind.wrap .i64 (n4 - 1) : Int) fun n5 =>
    bif decide (0 ≤ n5) then (
      (nth c2 n5.toNat).bind fun cs6 =>
      (nth cs6 0).bind fun d7 =>
      (asInt? .i64 d7).bind fun n8 =>
      callT (lvl Try.prog HH (n + 0)).2 11 [.s (.one (.v (.int .i64 n8))), .s (.one (.v (.int .i64 k1)))] [] outs11 mouts11 fun y9 m10 =>
      some (.s (.one (.v (.int .i64 y9.1))), [.own 2 true [[.fr 1 c2, .v (.int .i64 n4)]]]))
    else
    none := by kernel_rfl

/-! (*armplan/armplanmake.Source).Signed -/
theorem fn38s0 (n : Nat) (k1 : Int) (c2 : List (List D1)) (c3 : Int) : (lvl Try.prog HH (n + 1)).2 38 [.s (.one (.ptr 0 0 0)), .s (.one (.v (.int .i64 k1)))] [.own 2 true [[.fr 1 c2, .v (.int .i64 c3)]]] =
    letIn (IntKind.wrap .i64 (2 * k1) : Int) fun n4 =>
    letIn (IntKind.wrap .i64 (n4 + 1) : Int) fun n5 =>
    callT (lvl Try.prog HH (n + 0)).2 39 [.s (.one (.ptr 0 0 0)), .s (.one (.v (.int .i64 n5)))] [.own 2 true [[.fr 1 c2, .v (.int .i64 c3)]]] outs39 mouts39 fun y6 m7 =>
    letIn (IntKind.wrap .i64 (y6.1 - k1) : Int) fun n8 =>
    some (.s (.one (.v (.int .i64 n8))), [.own 2 true [[.fr 1 m7.1.1, .v (.int .i64 m7.1.2.1)]]]) := by kernel_rfl

/-! armplan/armplanmake.Points -/
theorem loop24_0_w (w : CallF → CallF) (v : LoopF → LoopF) (n : Nat) (v17 : Int) (v18 : Int) (c19 : List (List D1)) (c20 : Int) (c21 : Int) (c22 : Int) (c23 : Int) (es24 : List (List D1)) : (lvlW w v symL Try.prog HH (n + 5)).1 ⟨24, 0, true⟩ 0 (loopOf Try.f24 0) (encSt S24_0 ((v17, (), (), (), v18, ()), ((c19, c20, ()), (c21, c22, c23, ()), es24, ()))) =
    bif decide (v18 > 0) then (
      Option.bind (
        callT (w (lvlW w v symL Try.prog HH (n + 3)).2) 38 [.s (.one (.ptr 0 0 0)), .s (.one (.v (.int .i64 4)))] [.own 2 true [[.fr 1 c19, .v (.int .i64 c20)]]] outs38 mouts38 fun y25 m26 =>
        letIn (IntKind.wrap .i64 (y25.1 * 32768) : Int) fun n27 =>
        letIn (IntKind.wrap .i64 (c21 + n27) : Int) fun n28 =>
        callT (w (lvlW w v symL Try.prog HH (n + 3)).2) 38 [.s (.one (.ptr 0 0 0)), .s (.one (.v (.int .i64 9)))] [.own 2 true [[.fr 1 m26.1.1, .v (.int .i64 m26.1.2.1)]]] outs38 mouts38 fun y29 m30 =>
        letIn (IntKind.wrap .i64 (n28 + y29.1) : Int) fun n31 =>
        letIn (IntKind.wrap .i64 (v17 + 1) : Int) fun n32 =>
        callT (w (lvlW w v symL Try.prog HH (n + 3)).2) 39 [.s (.one (.ptr 0 0 0)), .s (.one (.v (.int .i64 n32)))] [.own 2 true [[.fr 1 m30.1.1, .v (.int .i64 m30.1.2.1)]]] outs39 mouts39 fun y33 m34 =>
        letIn (IntKind.wrap .i64 (n31 + y33.1) : Int) fun n35 =>
        callT (w (lvlW w v symL Try.prog HH (n + 2)).2) 38 [.s (.one (.ptr 0 0 0)), .s (.one (.v (.int .i64 4)))] [.own 2 true [[.fr 1 m34.1.1, .v (.int .i64 m34.1.2.1)]]] outs38 mouts38 fun y36 m37 =>
        letIn (IntKind.wrap .i64 (y36.1 * 32768) : Int) fun n38 =>
        letIn (IntKind.wrap .i64 (c22 + n38) : Int) fun n39 =>
        callT (w (lvlW w v symL Try.prog HH (n + 2)).2) 38 [.s (.one (.ptr 0 0 0)), .s (.one (.v (.int .i64 9)))] [.own 2 true [[.fr 1 m37.1.1, .v (.int .i64 m37.1.2.1)]]] outs38 mouts38 fun y40 m41 =>
        letIn (IntKind.wrap .i64 (n39 + y40.1) : Int) fun n42 =>
        letIn (IntKind.wrap .i64 (v17 + 1) : Int) fun n43 =>
        callT (w (lvlW w v symL Try.prog HH (n + 2)).2) 39 [.s (.one (.ptr 0 0 0)), .s (.one (.v (.int .i64 n43)))] [.own 2 true [[.fr 1 m41.1.1, .v (.int .i64 m41.1.2.1)]]] outs39 mouts39 fun y44 m45 =>
        letIn (IntKind.wrap .i64 (n42 + y44.1) : Int) fun n46 =>
        callT (w (lvlW w v symL Try.prog HH (n + 1)).2) 38 [.s (.one (.ptr 0 0 0)), .s (.one (.v (.int .i64 4)))] [.own 2 true [[.fr 1 m45.1.1, .v (.int .i64 m45.1.2.1)]]] outs38 mouts38 fun y47 m48 =>
        letIn (IntKind.wrap .i64 (y47.1 * 32768) : Int) fun n49 =>
        letIn (IntKind.wrap .i64 (c23 + n49) : Int) fun n50 =>
        callT (w (lvlW w v symL Try.prog HH (n + 1)).2) 38 [.s (.one (.ptr 0 0 0)), .s (.one (.v (.int .i64 9)))] [.own 2 true [[.fr 1 m48.1.1, .v (.int .i64 m48.1.2.1)]]] outs38 mouts38 fun y51 m52 =>
        letIn (IntKind.wrap .i64 (n50 + y51.1) : Int) fun n53 =>
        letIn (IntKind.wrap .i64 (v17 + 1) : Int) fun n54 =>
        callT (w (lvlW w v symL Try.prog HH (n + 1)).2) 39 [.s (.one (.ptr 0 0 0)), .s (.one (.v (.int .i64 n54)))] [.own 2 true [[.fr 1 m52.1.1, .v (.int .i64 m52.1.2.1)]]] outs39 mouts39 fun y55 m56 =>
        letIn (IntKind.wrap .i64 (n53 + y55.1) : Int) fun n57 =>
        some (.exit 2, encSt S24_2_e2 ((v17, (), (), (), v18, (), ()), ((m56.1.1, m56.1.2.1, ()), (c21, c22, c23, ()), es24, (n31, n35, n42, n46, n53, n57, ()), ())))) fun p58 =>
      bif sameEx (.exit 2) p58.1 then (decSt S24_2_e2 p58.2 fun x59 =>
        bif decide ((x59.2.2.2.1.length + 1) * 48 ≤ 140737488355328) then (
          letIn (IntKind.wrap .i64 (x59.1.2.2.2.2.1 - 1) : Int) fun n60 =>
          v (lvlW w v symL Try.prog HH (n + 4)).1 ⟨24, 0, true⟩ 0 (loopOf Try.f24 0) (encSt S24_0 ((x59.1.1, (), (), (), n60, ()), ((x59.2.1.1, x59.2.1.2.1, ()), (x59.2.2.1.1, x59.2.2.1.2.1, x59.2.2.1.2.2.1, ()), (x59.2.2.2.1 ++ ([[.v (.int .i64 x59.2.2.2.2.1.1), .v (.int .i64 x59.2.2.2.2.1.2.1), .v (.int .i64 x59.2.2.2.2.1.2.2.1), .v (.int .i64 x59.2.2.2.2.1.2.2.2.1), .v (.int .i64 x59.2.2.2.2.1.2.2.2.2.1), .v (.int .i64 x59.2.2.2.2.1.2.2.2.2.2.1)]] : List (List D1))), ()))))
        else
        none)
      else
      none)
    else
    some (.exit 0, encSt S24_0_e0 (((), ()), (es24, ()))) := by kernel_rfl
theorem loop24_0 (n : Nat) (v17 : Int) (v18 : Int) (c19 : List (List D1)) (c20 : Int) (c21 : Int) (c22 : Int) (c23 : Int) (es24 : List (List D1)) : (lvl Try.prog HH (n + 5)).1 ⟨24, 0, true⟩ 0 (loopOf Try.f24 0) (encSt S24_0 ((v17, (), (), (), v18, ()), ((c19, c20, ()), (c21, c22, c23, ()), es24, ()))) =
    bif decide (v18 > 0) then (
      Option.bind (
        callT (lvl Try.prog HH (n + 3)).2 38 [.s (.one (.ptr 0 0 0)), .s (.one (.v (.int .i64 4)))] [.own 2 true [[.fr 1 c19, .v (.int .i64 c20)]]] outs38 mouts38 fun y25 m26 =>
        letIn (IntKind.wrap .i64 (y25.1 * 32768) : Int) fun n27 =>
        letIn (IntKind.wrap .i64 (c21 + n27) : Int) fun n28 =>
        callT (lvl Try.prog HH (n + 3)).2 38 [.s (.one (.ptr 0 0 0)), .s (.one (.v (.int .i64 9)))] [.own 2 true [[.fr 1 m26.1.1, .v (.int .i64 m26.1.2.1)]]] outs38 mouts38 fun y29 m30 =>
        letIn (IntKind.wrap .i64 (n28 + y29.1) : Int) fun n31 =>
        letIn (IntKind.wrap .i64 (v17 + 1) : Int) fun n32 =>
        callT (lvl Try.prog HH (n + 3)).2 39 [.s (.one (.ptr 0 0 0)), .s (.one (.v (.int .i64 n32)))] [.own 2 true [[.fr 1 m30.1.1, .v (.int .i64 m30.1.2.1)]]] outs39 mouts39 fun y33 m34 =>
        letIn (IntKind.wrap .i64 (n31 + y33.1) : Int) fun n35 =>
        callT (lvl Try.prog HH (n + 2)).2 38 [.s (.one (.ptr 0 0 0)), .s (.one (.v (.int .i64 4)))] [.own 2 true [[.fr 1 m34.1.1, .v (.int .i64 m34.1.2.1)]]] outs38 mouts38 fun y36 m37 =>
        letIn (IntKind.wrap .i64 (y36.1 * 32768) : Int) fun n38 =>
        letIn (IntKind.wrap .i64 (c22 + n38) : Int) fun n39 =>
        callT (lvl Try.prog HH (n + 2)).2 38 [.s (.one (.ptr 0 0 0)), .s (.one (.v (.int .i64 9)))] [.own 2 true [[.fr 1 m37.1.1, .v (.int .i64 m37.1.2.1)]]] outs38 mouts38 fun y40 m41 =>
        letIn (IntKind.wrap .i64 (n39 + y40.1) : Int) fun n42 =>
        letIn (IntKind.wrap .i64 (v17 + 1) : Int) fun n43 =>
        callT (lvl Try.prog HH (n + 2)).2 39 [.s (.one (.ptr 0 0 0)), .s (.one (.v (.int .i64 n43)))] [.own 2 true [[.fr 1 m41.1.1, .v (.int .i64 m41.1.2.1)]]] outs39 mouts39 fun y44 m45 =>
        letIn (IntKind.wrap .i64 (n42 + y44.1) : Int) fun n46 =>
        callT (lvl Try.prog HH (n + 1)).2 38 [.s (.one (.ptr 0 0 0)), .s (.one (.v (.int .i64 4)))] [.own 2 true [[.fr 1 m45.1.1, .v (.int .i64 m45.1.2.1)]]] outs38 mouts38 fun y47 m48 =>
        letIn (IntKind.wrap .i64 (y47.1 * 32768) : Int) fun n49 =>
        letIn (IntKind.wrap .i64 (c23 + n49) : Int) fun n50 =>
        callT (lvl Try.prog HH (n + 1)).2 38 [.s (.one (.ptr 0 0 0)), .s (.one (.v (.int .i64 9)))] [.own 2 true [[.fr 1 m48.1.1, .v (.int .i64 m48.1.2.1)]]] outs38 mouts38 fun y51 m52 =>
        letIn (IntKind.wrap .i64 (n50 + y51.1) : Int) fun n53 =>
        letIn (IntKind.wrap .i64 (v17 + 1) : Int) fun n54 =>
        callT (lvl Try.prog HH (n + 1)).2 39 [.s (.one (.ptr 0 0 0)), .s (.one (.v (.int .i64 n54)))] [.own 2 true [[.fr 1 m52.1.1, .v (.int .i64 m52.1.2.1)]]] outs39 mouts39 fun y55 m56 =>
        letIn (IntKind.wrap .i64 (n53 + y55.1) : Int) fun n57 =>
        some (.exit 2, encSt S24_2_e2 ((v17, (), (), (), v18, (), ()), ((m56.1.1, m56.1.2.1, ()), (c21, c22, c23, ()), es24, (n31, n35, n42, n46, n53, n57, ()), ())))) fun p58 =>
      bif sameEx (.exit 2) p58.1 then (decSt S24_2_e2 p58.2 fun x59 =>
        bif decide ((x59.2.2.2.1.length + 1) * 48 ≤ 140737488355328) then (
          letIn (IntKind.wrap .i64 (x59.1.2.2.2.2.1 - 1) : Int) fun n60 =>
          (lvl Try.prog HH (n + 4)).1 ⟨24, 0, true⟩ 0 (loopOf Try.f24 0) (encSt S24_0 ((x59.1.1, (), (), (), n60, ()), ((x59.2.1.1, x59.2.1.2.1, ()), (x59.2.2.1.1, x59.2.2.1.2.1, x59.2.2.1.2.2.1, ()), (x59.2.2.2.1 ++ ([[.v (.int .i64 x59.2.2.2.2.1.1), .v (.int .i64 x59.2.2.2.2.1.2.1), .v (.int .i64 x59.2.2.2.2.1.2.2.1), .v (.int .i64 x59.2.2.2.2.1.2.2.2.1), .v (.int .i64 x59.2.2.2.2.1.2.2.2.2.1), .v (.int .i64 x59.2.2.2.2.1.2.2.2.2.2.1)]] : List (List D1))), ()))))
        else
        none)
      else
      none)
    else
    some (.exit 0, encSt S24_0_e0 (((), ()), (es24, ()))) := by
  have h := loop24_0_w (fun x => x) (fun x => x) n v17 v18 c19 c20 c21 c22 c23 es24
  rw [lvlW_id] at h
  exact h

theorem fn24_w (w : CallF → CallF) (v : LoopF → LoopF) (n : Nat) (l1 : List (List D1)) (width2 : Int) : (lvlW w v symL Try.prog HH (n + 1)).2 24 [.s (.one (.fr 1 l1)), .s (.one (.v (.int .i64 width2)))] [] =
    callT (w (lvlW w v symL Try.prog HH (n + 0)).2) 37 [.s (.one (.fr 1 l1))] [] outs37 mouts37 fun y3 m4 =>
    callT (w (lvlW w v symL Try.prog HH (n + 0)).2) 38 [.s (.one (.ptr 0 0 0)), .s (.one (.v (.int .i64 6)))] [.own 2 true [[.fr 1 m4.1.1, .v (.int .i64 m4.1.2.1)]]] outs38 mouts38 fun y5 m6 =>
    letIn (IntKind.wrap .i64 (y5.1 * 32768) : Int) fun n7 =>
    callT (w (lvlW w v symL Try.prog HH (n + 0)).2) 38 [.s (.one (.ptr 0 0 0)), .s (.one (.v (.int .i64 6)))] [.own 2 true [[.fr 1 m6.1.1, .v (.int .i64 m6.1.2.1)]]] outs38 mouts38 fun y8 m9 =>
    letIn (IntKind.wrap .i64 (y8.1 * 32768) : Int) fun n10 =>
    callT (w (lvlW w v symL Try.prog HH (n + 0)).2) 38 [.s (.one (.ptr 0 0 0)), .s (.one (.v (.int .i64 3)))] [.own 2 true [[.fr 1 m9.1.1, .v (.int .i64 m9.1.2.1)]]] outs38 mouts38 fun y11 m12 =>
    letIn (IntKind.wrap .i64 (y11.1 * 32768) : Int) fun n13 =>
    callT (w (lvlW w v symL Try.prog HH (n + 0)).2) 39 [.s (.one (.ptr 0 0 0)), .s (.one (.v (.int .i64 5)))] [.own 2 true [[.fr 1 m12.1.1, .v (.int .i64 m12.1.2.1)]]] outs39 mouts39 fun y14 m15 =>
    letIn (IntKind.wrap .i64 (1 + y14.1) : Int) fun n16 =>
    (v (lvlW w v symL Try.prog HH (n + 0)).1 ⟨24, 0, true⟩ 0 (loopOf Try.f24 0) (encSt S24_0 ((width2, (), (), (), n16, ()), ((m15.1.1, m15.1.2.1, ()), (n7, n10, n13, ()), [], ())))).bind fun p61 =>
    bif sameEx (.exit 0) p61.1 then (decSt S24_0_e0 p61.2 fun x62 =>
      some (.s (.one (.fr 6 x62.2.1)), []))
    else
    none := by kernel_rfl
theorem fn24 (n : Nat) (l1 : List (List D1)) (width2 : Int) : (lvl Try.prog HH (n + 1)).2 24 [.s (.one (.fr 1 l1)), .s (.one (.v (.int .i64 width2)))] [] =
    callT (lvl Try.prog HH (n + 0)).2 37 [.s (.one (.fr 1 l1))] [] outs37 mouts37 fun y3 m4 =>
    callT (lvl Try.prog HH (n + 0)).2 38 [.s (.one (.ptr 0 0 0)), .s (.one (.v (.int .i64 6)))] [.own 2 true [[.fr 1 m4.1.1, .v (.int .i64 m4.1.2.1)]]] outs38 mouts38 fun y5 m6 =>
    letIn (IntKind.wrap .i64 (y5.1 * 32768) : Int) fun n7 =>
    callT (lvl Try.prog HH (n + 0)).2 38 [.s (.one (.ptr 0 0 0)), .s (.one (.v (.int .i64 6)))] [.own 2 true [[.fr 1 m6.1.1, .v (.int .i64 m6.1.2.1)]]] outs38 mouts38 fun y8 m9 =>
    letIn (IntKind.wrap .i64 (y8.1 * 32768) : Int) fun n10 =>
    callT (lvl Try.prog HH (n + 0)).2 38 [.s (.one (.ptr 0 0 0)), .s (.one (.v (.int .i64 3)))] [.own 2 true [[.fr 1 m9.1.1, .v (.int .i64 m9.1.2.1)]]] outs38 mouts38 fun y11 m12 =>
    letIn (IntKind.wrap .i64 (y11.1 * 32768) : Int) fun n13 =>
    callT (lvl Try.prog HH (n + 0)).2 39 [.s (.one (.ptr 0 0 0)), .s (.one (.v (.int .i64 5)))] [.own 2 true [[.fr 1 m12.1.1, .v (.int .i64 m12.1.2.1)]]] outs39 mouts39 fun y14 m15 =>
    letIn (IntKind.wrap .i64 (1 + y14.1) : Int) fun n16 =>
    ((lvl Try.prog HH (n + 0)).1 ⟨24, 0, true⟩ 0 (loopOf Try.f24 0) (encSt S24_0 ((width2, (), (), (), n16, ()), ((m15.1.1, m15.1.2.1, ()), (n7, n10, n13, ()), [], ())))).bind fun p61 =>
    bif sameEx (.exit 0) p61.1 then (decSt S24_0_e0 p61.2 fun x62 =>
      some (.s (.one (.fr 6 x62.2.1)), []))
    else
    none := by
  have h := fn24_w (fun x => x) (fun x => x) n l1 width2
  rw [lvlW_id] at h
  exact h

/-! armplan/armplanmake.Corners -/
theorem loop23_0 (n : Nat) (v2 : List (List D1)) (v3 : Int) (es4 : List (List D1)) : (lvl Try.prog HH (n + 1)).1 ⟨23, 0, true⟩ 0 (loopOf Try.f23 0) (encSt S23_0 ((v2, (), v3, ()), (es4, ()))) =
    bif decide (v3 < (((v2.length : Nat) : Int))) then (
      bif decide (0 ≤ v3) then (
        (nth v2 v3.toNat).bind fun cs5 =>
        (nth ((cs5.drop 0).drop 0) 0).bind fun d6 =>
        (asInt? .i64 d6).bind fun n7 =>
        bif decide (0 ≤ v3) then (
          (nth v2 v3.toNat).bind fun cs8 =>
          (nth ((cs8.drop 2).drop 0) 0).bind fun d9 =>
          (asInt? .i64 d9).bind fun n10 =>
          bif decide (0 ≤ v3) then (
            (nth v2 v3.toNat).bind fun cs11 =>
            (nth ((cs11.drop 4).drop 0) 0).bind fun d12 =>
            (asInt? .i64 d12).bind fun n13 =>
            bif decide ((es4.length + 1) * 24 ≤ 140737488355328) then (
              letIn (IntKind.wrap .i64 (v3 + 1) : Int) fun n14 =>
              (lvl Try.prog HH (n + 0)).1 ⟨23, 0, true⟩ 0 (loopOf Try.f23 0) (encSt S23_0 ((v2, (), n14, ()), ((es4 ++ ([[.v (.int .i64 n7), .v (.int .i64 n10), .v (.int .i64 n13)]] : List (List D1))), ()))))
            else
            none)
          else
          none)
        else
        none)
      else
      none)
    else
    some (.exit 0, encSt S23_0_e0 (((), ()), (es4, ()))) := by kernel_rfl

theorem fn23 (n : Nat) (l1 : List (List D1)) : (lvl Try.prog HH (n + 1)).2 23 [.s (.one (.fr 6 l1))] [] =
    ((lvl Try.prog HH (n + 0)).1 ⟨23, 0, true⟩ 0 (loopOf Try.f23 0) (encSt S23_0 ((l1, (), 0, ()), ([], ())))).bind fun p15 =>
    bif sameEx (.exit 0) p15.1 then (decSt S23_0_e0 p15.2 fun x16 =>
      some (.s (.one (.fr 3 x16.2.1)), []))
    else
    none := by kernel_rfl

/-! armplan/armplanlaw14.hulls -/
theorem fn10_w (w : CallF → CallF) (v : LoopF → LoopF) (n : Nat) (l1 : List (List D1)) (m2 : List (List D1)) (rho3 : Int) : (lvlW w v symL Try.prog HH (n + 1)).2 10 [.s (.one (.fr 1 l1)), .s (.one (.fr 1 m2)), .s (.one (.v (.int .i64 rho3)))] [] =
    callT (w (lvlW w v symL Try.prog HH (n + 0)).2) 24 [.s (.one (.fr 1 l1)), .s (.one (.v (.int .i64 0)))] [] outs24 mouts24 fun y4 m5 =>
    callT (w (lvlW w v symL Try.prog HH (n + 0)).2) 23 [.s (.one (.fr 6 y4.1))] [] outs23 mouts23 fun y6 m7 =>
    callT (w (lvlW w v symL Try.prog HH (n + 0)).2) 24 [.s (.one (.fr 1 m2)), .s (.one (.v (.int .i64 0)))] [] outs24 mouts24 fun y8 m9 =>
    callT (w (lvlW w v symL Try.prog HH (n + 0)).2) 23 [.s (.one (.fr 6 y8.1))] [] outs23 mouts23 fun y10 m11 =>
    letIn (Int.fdiv rho3 16 : Int) fun n12 =>
    letIn (IntKind.wrap .i64 ((BitVec.ofInt 64 rho3 &&& BitVec.ofInt 64 3).toNat : Nat) : Int) fun n13 =>
    bif (decide (0 ≤ n13)) && (decide (n13 < 4)) then (
      (nth ([.v (.int .i64 1), .v (.int .i64 30000), .v (.int .i64 100000), .v (.int .i64 2097153)] : List D1) (n13.toNat * 1)).bind fun d14 =>
      (asInt? .i64 d14).bind fun n15 =>
      callT (w (lvlW w v symL Try.prog HH (n + 0)).2) 11 [.s (.one (.v (.int .i64 n12))), .s (.one (.v (.int .i64 n15)))] [] outs11 mouts11 fun y16 m17 =>
      some (.tup [.one (.fr 3 y6.1), .one (.fr 3 y10.1), .one (.v (.int .i64 y16.1))], []))
    else
    none := by kernel_rfl
theorem fn10 (n : Nat) (l1 : List (List D1)) (m2 : List (List D1)) (rho3 : Int) : (lvl Try.prog HH (n + 1)).2 10 [.s (.one (.fr 1 l1)), .s (.one (.fr 1 m2)), .s (.one (.v (.int .i64 rho3)))] [] =
    callT (lvl Try.prog HH (n + 0)).2 24 [.s (.one (.fr 1 l1)), .s (.one (.v (.int .i64 0)))] [] outs24 mouts24 fun y4 m5 =>
    callT (lvl Try.prog HH (n + 0)).2 23 [.s (.one (.fr 6 y4.1))] [] outs23 mouts23 fun y6 m7 =>
    callT (lvl Try.prog HH (n + 0)).2 24 [.s (.one (.fr 1 m2)), .s (.one (.v (.int .i64 0)))] [] outs24 mouts24 fun y8 m9 =>
    callT (lvl Try.prog HH (n + 0)).2 23 [.s (.one (.fr 6 y8.1))] [] outs23 mouts23 fun y10 m11 =>
    letIn (Int.fdiv rho3 16 : Int) fun n12 =>
    letIn (IntKind.wrap .i64 ((BitVec.ofInt 64 rho3 &&& BitVec.ofInt 64 3).toNat : Nat) : Int) fun n13 =>
    bif (decide (0 ≤ n13)) && (decide (n13 < 4)) then (
      (nth ([.v (.int .i64 1), .v (.int .i64 30000), .v (.int .i64 100000), .v (.int .i64 2097153)] : List D1) (n13.toNat * 1)).bind fun d14 =>
      (asInt? .i64 d14).bind fun n15 =>
      callT (lvl Try.prog HH (n + 0)).2 11 [.s (.one (.v (.int .i64 n12))), .s (.one (.v (.int .i64 n15)))] [] outs11 mouts11 fun y16 m17 =>
      some (.tup [.one (.fr 3 y6.1), .one (.fr 3 y10.1), .one (.v (.int .i64 y16.1))], []))
    else
    none := by
  have h := fn10_w (fun x => x) (fun x => x) n l1 m2 rho3
  rw [lvlW_id] at h
  exact h

/-! armplan/nearest.far$1 -/
theorem fn68 (n : Nat) (x1 : Int) : (lvl Try.prog HH (n + 1)).2 68 [.s (.one (.v (.int .i64 x1)))] [] =
    bif decide (x1 < (-268435456)) then (
      some (.s (.one (.v (.bool true))), []))
    else
    some (.s (.one (.v (.bool (decide (x1 > 268435456))))), []) := by kernel_rfl

/-! slices.IndexFunc[[]int64,int64] -/
theorem loop75s0_0 (n : Nat) (v2 : List (List D1)) (v3 : Int) (v4 : Int) : (lvl Try.prog HH (n + 1)).1 ⟨75, 0, true⟩ 0 (loopOf Try.f75 0) (encSt S75s0_0 ((v2, (.v (.func (.func 68) #[] #[])), v3, v4, ()), ())) =
    bif decide (v4 < v3) then (
      bif decide (0 ≤ v4) then (
        (nth v2 v4.toNat).bind fun cs5 =>
        (nth cs5 0).bind fun d6 =>
        (asInt? .i64 d6).bind fun n7 =>
        callT (lvl Try.prog HH (n + 0)).2 68 [.s (.one (.v (.int .i64 n7)))] [] outs68 mouts68 fun y8 m9 =>
        bif y8.1 then (
          some (.ret, encSt S75s0_0_r ((v4, ()), ())))
        else
        letIn (IntKind.wrap .i64 (v4 + 1) : Int) fun n10 =>
        (lvl Try.prog HH (n + 0)).1 ⟨75, 0, true⟩ 0 (loopOf Try.f75 0) (encSt S75s0_0 ((v2, (.v (.func (.func 68) #[] #[])), v3, n10, ()), ())))
      else
      none)
    else
    some (.exit 0, encSt S75s0_0_e0 ((), ())) := by kernel_rfl

theorem fn75s0 (n : Nat) (s1 : List (List D1)) : (lvl Try.prog HH (n + 1)).2 75 [.s (.one (.fr 1 s1)), .s (.one (.v (.func (.func 68) #[] #[])))] [] =
    ((lvl Try.prog HH (n + 0)).1 ⟨75, 0, true⟩ 0 (loopOf Try.f75 0) (encSt S75s0_0 ((s1, (.v (.func (.func 68) #[] #[])), (((s1.length : Nat) : Int)), 0, ()), ()))).bind fun p11 =>
    bif sameEx (.ret) p11.1 then (decSt S75s0_0_r p11.2 fun x12 =>
      some (.s (.one (.v (.int .i64 x12.1.1))), []))
    else
    bif sameEx (.exit 0) p11.1 then (decSt S75s0_0_e0 p11.2 fun x13 =>
      some (.s (.one (.v (.int .i64 (-1)))), []))
    else
    none := by kernel_rfl

/-! slices.ContainsFunc[[]int64,int64] -/
theorem fn67s0 (n : Nat) (s1 : List (List D1)) : (lvl Try.prog HH (n + 1)).2 67 [.s (.one (.fr 1 s1)), .s (.one (.v (.func (.func 68) #[] #[])))] [] =
    callT (lvl Try.prog HH (n + 0)).2 75 [.s (.one (.fr 1 s1)), .s (.one (.v (.func (.func 68) #[] #[])))] [] outs75 mouts75 fun y2 m3 =>
    some (.s (.one (.v (.bool (decide (y2.1 ≥ 0))))), []) := by kernel_rfl

/-! armplan/nearest.far -/
theorem fn49 (n : Nat) (v1 : Int) (v2 : Int) (v3 : Int) : (lvl Try.prog HH (n + 1)).2 49 [.s (.agg true [.v (.int .i64 v1), .v (.int .i64 v2), .v (.int .i64 v3)])] [] =
    callT (lvl Try.prog HH (n + 0)).2 67 [.s (.one (.fr 1 [[.v (.int .i64 v1)], [.v (.int .i64 v2)], [.v (.int .i64 v3)]])), .s (.one (.v (.func (.func 68) #[] #[])))] [] outs67 mouts67 fun y4 m5 =>
    some (.s (.one (.v (.bool y4.1))), []) := by kernel_rfl

/-! slices.IndexFunc[[]armplan/api.Vec,armplan/api.Vec] -/
theorem loop66s0_0 (n : Nat) (v2 : List (List D1)) (v3 : Int) (v4 : Int) : (lvl Try.prog HH (n + 1)).1 ⟨66, 0, true⟩ 0 (loopOf Try.f66 0) (encSt S66s0_0 ((v2, (.v (.func (.func 49) #[] #[])), v3, v4, ()), ())) =
    bif decide (v4 < v3) then (
      bif decide (0 ≤ v4) then (
        (nth v2 v4.toNat).bind fun cs5 =>
        bif Nat.beq ((cs5.drop 0).take 3).length 3 then (
          decCts [.int .i64, .int .i64, .int .i64] ((cs5.drop 0).take 3) fun c6 =>
          callT (lvl Try.prog HH (n + 0)).2 49 [.s (.agg true [.v (.int .i64 c6.1), .v (.int .i64 c6.2.1), .v (.int .i64 c6.2.2.1)])] [] outs49 mouts49 fun y7 m8 =>
          bif y7.1 then (
            some (.ret, encSt S66s0_0_r ((v4, ()), ())))
          else
          letIn (IntKind.wrap .i64 (v4 + 1) : Int) fun n9 =>
          (lvl Try.prog HH (n + 0)).1 ⟨66, 0, true⟩ 0 (loopOf Try.f66 0) (encSt S66s0_0 ((v2, (.v (.func (.func 49) #[] #[])), v3, n9, ()), ())))
        else
        none)
      else
      none)
    else
    some (.exit 0, encSt S66s0_0_e0 ((), ())) := by kernel_rfl

theorem fn66s0 (n : Nat) (s1 : List (List D1)) : (lvl Try.prog HH (n + 1)).2 66 [.s (.one (.fr 3 s1)), .s (.one (.v (.func (.func 49) #[] #[])))] [] =
    ((lvl Try.prog HH (n + 0)).1 ⟨66, 0, true⟩ 0 (loopOf Try.f66 0) (encSt S66s0_0 ((s1, (.v (.func (.func 49) #[] #[])), (((s1.length : Nat) : Int)), 0, ()), ()))).bind fun p10 =>
    bif sameEx (.ret) p10.1 then (decSt S66s0_0_r p10.2 fun x11 =>
      some (.s (.one (.v (.int .i64 x11.1.1))), []))
    else
    bif sameEx (.exit 0) p10.1 then (decSt S66s0_0_e0 p10.2 fun x12 =>
      some (.s (.one (.v (.int .i64 (-1)))), []))
    else
    none := by kernel_rfl

/-! slices.ContainsFunc[[]armplan/api.Vec,armplan/api.Vec] -/
theorem fn48s0 (n : Nat) (s1 : List (List D1)) : (lvl Try.prog HH (n + 1)).2 48 [.s (.one (.fr 3 s1)), .s (.one (.v (.func (.func 49) #[] #[])))] [] =
    callT (lvl Try.prog HH (n + 0)).2 66 [.s (.one (.fr 3 s1)), .s (.one (.v (.func (.func 49) #[] #[])))] [] outs66 mouts66 fun y2 m3 =>
    some (.s (.one (.v (.bool (decide (y2.1 ≥ 0))))), []) := by kernel_rfl

/-! armplan/nearest.points -/
theorem fn26 (n : Nat) (l1 : List (List D1)) : (lvl Try.prog HH (n + 1)).2 26 [.s (.one (.fr 3 l1))] [] =
    bif decide ((((l1.length : Nat) : Int)) ≥ 1) then (
      bif decide ((((l1.length : Nat) : Int)) ≤ 8) then (
        callT (lvl Try.prog HH (n + 0)).2 48 [.s (.one (.fr 3 l1)), .s (.one (.v (.func (.func 49) #[] #[])))] [] outs48 mouts48 fun y2 m3 =>
        some (.s (.one (.v (.bool (!y2.1)))), []))
      else
      some (.s (.one (.v (.bool false))), []))
    else
    some (.s (.one (.v (.bool false))), []) := by kernel_rfl

/-! armplan/nearest.single -/
theorem fn27 (n : Nat) (n1 : Int) : (lvl Try.prog HH (n + 1)).2 27 [.s (.one (.v (.int .i64 n1)))] [] =
    bif (decide (0 ≤ n1)) && (decide (n1 ≤ n1)) && (decide (n1 ≤ n1)) && decide (n1.toNat * 8 ≤ 140737488355328) then (
      (nth ((List.replicate n1.toNat [.v (.int .i64 0)]) : List (List D1)) 0).bind fun cs2 =>
      (nth ((List.replicate n1.toNat [.v (.int .i64 0)]) : List (List D1)) 0).bind fun cs3 =>
      (setCells cs3 0 [.v (.int .i64 65536)]).bind fun cs4 =>
      some (.s (.one (.fs 0)), [.own 1 true (upd (List.replicate n1.toNat [.v (.int .i64 0)]) 0 cs4)]))
    else
    none := by kernel_rfl

/-! (armplan/nearest.weights).add -/
theorem loop69s0_0 (n : Nat) (v7 : Int) (v8 : List (List D1)) (v9 : Int) (v10 : Int) (es11 : List (List D1)) (c12 : Int) (c13 : Int) (c14 : Int) : (lvl Try.prog HH (n + 5)).1 ⟨69, 2, false⟩ 0 (loopOf Try.f69 0) (encSt S69s0_0 (((), (), v7, v8, v9, v10, ()), (es11, (c12, c13, c14, ()), ()))) =
    bif decide (v10 < v9) then (
      bif decide (0 ≤ v10) then (
        (nth v8 v10.toNat).bind fun cs15 =>
        bif Nat.beq ((cs15.drop 0).take 3).length 3 then (
          decCts [.int .i64, .int .i64, .int .i64] ((cs15.drop 0).take 3) fun c16 =>
          Option.bind (
            bif decide (0 ≤ v10) then (
              (nth es11 v10.toNat).bind fun cs17 =>
              (nth es11 v10.toNat).bind fun cs18 =>
              (nth cs18 0).bind fun d19 =>
              (asInt? .i64 d19).bind fun n20 =>
              letIn (IntKind.wrap .i64 (v7 * n20) : Int) fun n21 =>
              letIn (IntKind.wrap .i64 (n21 * c16.1) : Int) fun n22 =>
              letIn (IntKind.wrap .i64 (c12 + n22) : Int) fun n23 =>
              bif decide (0 ≤ v10) then (
                (nth es11 v10.toNat).bind fun cs24 =>
                (nth es11 v10.toNat).bind fun cs25 =>
                (nth cs25 0).bind fun d26 =>
                (asInt? .i64 d26).bind fun n27 =>
                letIn (IntKind.wrap .i64 (v7 * n27) : Int) fun n28 =>
                letIn (IntKind.wrap .i64 (n28 * c16.2.1) : Int) fun n29 =>
                letIn (IntKind.wrap .i64 (c13 + n29) : Int) fun n30 =>
                bif decide (0 ≤ v10) then (
                  (nth es11 v10.toNat).bind fun cs31 =>
                  (nth es11 v10.toNat).bind fun cs32 =>
                  (nth cs32 0).bind fun d33 =>
                  (asInt? .i64 d33).bind fun n34 =>
                  letIn (IntKind.wrap .i64 (v7 * n34) : Int) fun n35 =>
                  letIn (IntKind.wrap .i64 (n35 * c16.2.2.1) : Int) fun n36 =>
                  letIn (IntKind.wrap .i64 (c14 + n36) : Int) fun n37 =>
                  some (.exit 2, encSt S69s0_2_e2 (((), (), v7, v8, v9, v10, ()), (es11, (n23, n30, n37, ()), ()))))
                else
                none)
              else
              none)
            else
            none) fun p38 =>
          bif sameEx (.exit 2) p38.1 then (decSt S69s0_2_e2 p38.2 fun x39 =>
            letIn (IntKind.wrap .i64 (x39.1.2.2.2.2.2.1 + 1) : Int) fun n40 =>
            (lvl Try.prog HH (n + 4)).1 ⟨69, 2, false⟩ 0 (loopOf Try.f69 0) (encSt S69s0_0 (((), (), x39.1.2.2.1, x39.1.2.2.2.1, x39.1.2.2.2.2.1, n40, ()), (x39.2.1, (x39.2.2.1.1, x39.2.2.1.2.1, x39.2.2.1.2.2.1, ()), ()))))
          else
          none)
        else
        none)
      else
      none)
    else
    some (.exit 0, encSt S69s0_0_e0 ((), (es11, (c12, c13, c14, ()), ()))) := by kernel_rfl

theorem fn69s0 (n : Nat) (points1 : List (List D1)) (sign2 : Int) (es3 : List (List D1)) (c4 : Int) (c5 : Int) (c6 : Int) : (lvl Try.prog HH (n + 1)).2 69 [.s (.one (.fs 0)), .s (.one (.ptr 1 0 0)), .s (.one (.fr 3 points1)), .s (.one (.v (.int .i64 sign2)))] [.own 1 true es3, .own 3 true [[.v (.int .i64 c4), .v (.int .i64 c5), .v (.int .i64 c6)]]] =
    ((lvl Try.prog HH (n + 0)).1 ⟨69, 2, false⟩ 0 (loopOf Try.f69 0) (encSt S69s0_0 (((), (), sign2, points1, (((points1.length : Nat) : Int)), 0, ()), (es3, (c4, c5, c6, ()), ())))).bind fun p41 =>
    bif sameEx (.exit 0) p41.1 then (decSt S69s0_0_e0 p41.2 fun x42 =>
      some (.tup [], [.own 1 true x42.2.1, .own 3 true [[.v (.int .i64 x42.2.2.1.1), .v (.int .i64 x42.2.2.1.2.1), .v (.int .i64 x42.2.2.1.2.2.1)]]]))
    else
    none := by kernel_rfl

/-! (*armplan/nearest.sides).between -/
theorem fn50s0 (n : Nat) (a1 : List (List D1)) (b2 : List (List D1)) (c3 : List (List D1)) (c4 : List (List D1)) (c5 : Int) (c6 : Int) (c7 : Int) (c8 : Int) (c9 : Int) (c10 : Int) (es11 : List (List D1)) (es12 : List (List D1)) : (lvl Try.prog HH (n + 1)).2 50 [.s (.one (.ptr 0 0 0)), .s (.one (.fr 3 a1)), .s (.one (.fr 3 b2))] [.own 10 false [[.fs 1, .fs 2, .fr 3 c3, .fr 3 c4, .v (.int .i64 c5), .v (.int .i64 c6), .v (.int .i64 c7), .v (.int .i64 c8), .v (.int .i64 c9), .v (.int .i64 c10)]], .own 1 true es11, .own 1 true es12] =
    callT (lvl Try.prog HH (n + 0)).2 69 [.s (.one (.fs 0)), .s (.one (.ptr 1 0 0)), .s (.one (.fr 3 a1)), .s (.one (.v (.int .i64 1)))] [.own 1 true es11, .own 3 true [[.v (.int .i64 0), .v (.int .i64 0), .v (.int .i64 0)]]] outs69 mouts69 fun y13 m14 =>
    callT (lvl Try.prog HH (n + 0)).2 69 [.s (.one (.fs 0)), .s (.one (.ptr 1 0 0)), .s (.one (.fr 3 b2)), .s (.one (.v (.int .i64 (-1))))] [.own 1 true es12, .own 3 true [[.v (.int .i64 m14.2.1.1), .v (.int .i64 m14.2.1.2.1), .v (.int .i64 m14.2.1.2.2.1)]]] outs69 mouts69 fun y15 m16 =>
    some (.s (.agg true [.v (.int .i64 m16.2.1.1), .v (.int .i64 m16.2.1.2.1), .v (.int .i64 m16.2.1.2.2.1)]), [.own 10 false [[.fs 1, .fs 2, .fr 3 c3, .fr 3 c4, .v (.int .i64 c5), .v (.int .i64 c6), .v (.int .i64 c7), .v (.int .i64 c8), .v (.int .i64 c9), .v (.int .i64 c10)]], .own 1 true m14.1, .own 1 true m16.1]) := by kernel_rfl

/-! armplan/nearest.lengths -/
theorem fn51 (n : Nat) (v1 : Int) (v2 : Int) (v3 : Int) : (lvl Try.prog HH (n + 5)).2 51 [.s (.agg true [.v (.int .i64 v1), .v (.int .i64 v2), .v (.int .i64 v3)])] [] =
    letIn (IntKind.wrap .i64 (0 - v1) : Int) fun n4 =>
    letIn (if n4 > v1 then n4 else v1 : Int) fun n5 =>
    letIn (IntKind.wrap .i64 (n5 + 65536) : Int) fun n6 =>
    letIn (IntKind.wrap .i64 (n6 - 1) : Int) fun n7 =>
    letIn (IntKind.wrap .i64 (Int.tdiv n7 65536) : Int) fun n8 =>
    letIn (IntKind.wrap .i64 (0 - v2) : Int) fun n9 =>
    letIn (if n9 > v2 then n9 else v2 : Int) fun n10 =>
    letIn (IntKind.wrap .i64 (n10 + 65536) : Int) fun n11 =>
    letIn (IntKind.wrap .i64 (n11 - 1) : Int) fun n12 =>
    letIn (IntKind.wrap .i64 (Int.tdiv n12 65536) : Int) fun n13 =>
    letIn (IntKind.wrap .i64 (0 - v3) : Int) fun n14 =>
    letIn (if n14 > v3 then n14 else v3 : Int) fun n15 =>
    letIn (IntKind.wrap .i64 (n15 + 65536) : Int) fun n16 =>
    letIn (IntKind.wrap .i64 (n16 - 1) : Int) fun n17 =>
    letIn (IntKind.wrap .i64 (Int.tdiv n17 65536) : Int) fun n18 =>
    some (.s (.agg true [.v (.int .i64 n8), .v (.int .i64 n13), .v (.int .i64 n18)]), []) := by kernel_rfl

/-! armplan/nearest.dot -/
theorem fn52 (n : Nat) (x1 : Int) (x2 : Int) (x3 : Int) (y4 : Int) (y5 : Int) (y6 : Int) : (lvl Try.prog HH (n + 1)).2 52 [.s (.agg true [.v (.int .i64 x1), .v (.int .i64 x2), .v (.int .i64 x3)]), .s (.agg true [.v (.int .i64 y4), .v (.int .i64 y5), .v (.int .i64 y6)])] [] =
    letIn (IntKind.wrap .i64 (x1 * y4) : Int) fun n7 =>
    letIn (IntKind.wrap .i64 (x2 * y5) : Int) fun n8 =>
    letIn (IntKind.wrap .i64 (n7 + n8) : Int) fun n9 =>
    letIn (IntKind.wrap .i64 (x3 * y6) : Int) fun n10 =>
    letIn (IntKind.wrap .i64 (n9 + n10) : Int) fun n11 =>
    some (.s (.one (.v (.int .i64 n11))), []) := by kernel_rfl

/-! armplan/support.fits -/
theorem fn70 (n : Nat) (v1 : Int) (v2 : Int) (v3 : Int) : (lvl Try.prog HH (n + 5)).2 70 [.s (.agg true [.v (.int .i64 v1), .v (.int .i64 v2), .v (.int .i64 v3)])] [] =
    Option.bind (
      bif decide (v1 < (-16384)) then (
        some (.ret, encSt S70_0_r ((false, ()), ())))
      else
      bif decide (v1 > 16384) then (
        some (.ret, encSt S70_0_r ((false, ()), ())))
      else
      bif decide (v2 < (-16384)) then (
        some (.ret, encSt S70_0_r ((false, ()), ())))
      else
      bif decide (v2 > 16384) then (
        some (.ret, encSt S70_0_r ((false, ()), ())))
      else
      bif decide (v3 < (-16384)) then (
        some (.ret, encSt S70_0_r ((false, ()), ())))
      else
      bif decide (v3 > 16384) then (
        some (.ret, encSt S70_0_r ((false, ()), ())))
      else
      some (.exit 0, encSt S70_0_e0 ((), ()))) fun p4 =>
    bif sameEx (.ret) p4.1 then (decSt S70_0_r p4.2 fun x5 =>
      some (.s (.one (.v (.bool x5.1.1))), []))
    else
    bif sameEx (.exit 0) p4.1 then (decSt S70_0_e0 p4.2 fun x6 =>
      some (.s (.one (.v (.bool true))), []))
    else
    none := by kernel_rfl

end Go.Proofs.Ytcldcnolhmmegaa.Am
