/- PRINTED by amprint.py: what the abstract machine answers, function by function. -/
import Derived.Test.YtilffjjibcebmaaH
import Derived.KernelRfl
set_option linter.unusedVariables false
set_option maxRecDepth 100000
namespace Go.Proofs.Ytilffjjibcebmaa.Am
open Go Go.Proofs

/-! armplan/armplanmake.Corners -/
theorem loop21_0 (n : Nat) (v2 : List (List D1)) (v3 : Int) (es4 : List (List D1)) : (lvl Try.prog HH (n + 1)).1 ⟨21, 0, true⟩ 0 (loopOf Try.f21 0) (encSt S21_0 ((v2, (), v3, ()), (es4, ()))) =
    bif decide (v3 < (((v2.length : Nat) : Int))) then (
      bif decide (0 ≤ v3) then (
        (nth v2 v3.toNat).bind fun cs5 =>
        (nth ((cs5.drop 0).drop 0) 0).bind fun d6 =>
        (asInt? .i64 d6).bind fun n7 =>
        bif decide (0 ≤ v3) then (
          (nth v2 v3.toNat).bind fun cs8 =>
          (nth ((cs8.drop 2).drop 0) 0).bind fun d9 =>
          (asInt? .i64 d9).bind fun n10 =>
          bif decide (0 ≤ v3) then (
            (nth v2 v3.toNat).bind fun cs11 =>
            (nth ((cs11.drop 4).drop 0) 0).bind fun d12 =>
            (asInt? .i64 d12).bind fun n13 =>
            bif decide ((es4.length + 1) * 24 ≤ 140737488355328) then (
              letIn (IntKind.wrap .i64 (v3 + 1) : Int) fun n14 =>
              (lvl Try.prog HH (n + 0)).1 ⟨21, 0, true⟩ 0 (loopOf Try.f21 0) (encSt S21_0 ((v2, (), n14, ()), ((es4 ++ ([[.v (.int .i64 n7), .v (.int .i64 n10), .v (.int .i64 n13)]] : List (List D1))), ()))))
            else
            none)
          else
          none)
        else
        none)
      else
      none)
    else
    some (.exit 0, encSt S21_0_e0 (((), ()), (es4, ()))) := by kernel_rfl

theorem fn21 (n : Nat) (l1 : List (List D1)) : (lvl Try.prog HH (n + 1)).2 21 [.s (.one (.fr 6 l1))] [] =
    ((lvl Try.prog HH (n + 0)).1 ⟨21, 0, true⟩ 0 (loopOf Try.f21 0) (encSt S21_0 ((l1, (), 0, ()), ([], ())))).bind fun p15 =>
    bif sameEx (.exit 0) p15.1 then (decSt S21_0_e0 p15.2 fun x16 =>
      some (.s (.one (.fr 3 x16.2.1)), []))
    else
    none := by kernel_rfl

/-! armplan/armplanref14.Sum -/
theorem loop20_0 (n : Nat) (v3 : List (List D1)) (v4 : List (List D1)) (v5 : Int) (c6 : Int) (c7 : Int) (c8 : Int) (c9 : Int) (c10 : Int) (c11 : Int) : (lvl Try.prog HH (n + 5)).1 ⟨20, 0, true⟩ 0 (loopOf Try.f20 0) (encSt S20_0 ((v3, v4, (), (), v5, ()), ((c6, c7, c8, ()), (c9, c10, c11, ()), ()))) =
    bif decide (v5 < (((v3.length : Nat) : Int))) then (
      Option.bind (
        bif decide (0 ≤ v5) then (
          (nth v4 v5.toNat).bind fun cs12 =>
          (nth cs12 0).bind fun d13 =>
          (asInt? .i64 d13).bind fun n14 =>
          bif decide (0 ≤ v5) then (
            (nth v3 v5.toNat).bind fun cs15 =>
            (nth (cs15.drop 0) 0).bind fun d16 =>
            (asInt? .i64 d16).bind fun n17 =>
            letIn (IntKind.wrap .i64 (n14 * n17) : Int) fun n18 =>
            letIn (IntKind.wrap .i64 (c9 + n18) : Int) fun n19 =>
            bif decide (0 ≤ v5) then (
              (nth v4 v5.toNat).bind fun cs20 =>
              (nth cs20 0).bind fun d21 =>
              (asInt? .i64 d21).bind fun n22 =>
              bif decide (0 ≤ v5) then (
                (nth v3 v5.toNat).bind fun cs23 =>
                (nth (cs23.drop 1) 0).bind fun d24 =>
                (asInt? .i64 d24).bind fun n25 =>
                letIn (IntKind.wrap .i64 (n22 * n25) : Int) fun n26 =>
                letIn (IntKind.wrap .i64 (c10 + n26) : Int) fun n27 =>
                bif decide (0 ≤ v5) then (
                  (nth v4 v5.toNat).bind fun cs28 =>
                  (nth cs28 0).bind fun d29 =>
                  (asInt? .i64 d29).bind fun n30 =>
                  bif decide (0 ≤ v5) then (
                    (nth v3 v5.toNat).bind fun cs31 =>
                    (nth (cs31.drop 2) 0).bind fun d32 =>
                    (asInt? .i64 d32).bind fun n33 =>
                    letIn (IntKind.wrap .i64 (n30 * n33) : Int) fun n34 =>
                    letIn (IntKind.wrap .i64 (c11 + n34) : Int) fun n35 =>
                    some (.exit 2, encSt S20_2_e2 ((v3, v4, (), (), v5, ()), ((c6, c7, c8, ()), (n19, n27, n35, ()), ()))))
                  else
                  none)
                else
                none)
              else
              none)
            else
            none)
          else
          none)
        else
        none) fun p36 =>
      bif sameEx (.exit 2) p36.1 then (decSt S20_2_e2 p36.2 fun x37 =>
        letIn (IntKind.wrap .i64 (x37.1.2.2.2.2.1 + 1) : Int) fun n38 =>
        (lvl Try.prog HH (n + 4)).1 ⟨20, 0, true⟩ 0 (loopOf Try.f20 0) (encSt S20_0 ((x37.1.1, x37.1.2.1, (), (), n38, ()), ((x37.2.1.1, x37.2.1.2.1, x37.2.1.2.2.1, ()), (x37.2.2.1.1, x37.2.2.1.2.1, x37.2.2.1.2.2.1, ()), ()))))
      else
      none)
    else
    some (.exit 0, encSt S20_0_e0 (((), (), ()), ((c6, c7, c8, ()), (c9, c10, c11, ()), ()))) := by kernel_rfl

theorem fn20 (n : Nat) (l1 : List (List D1)) (weights2 : List (List D1)) : (lvl Try.prog HH (n + 1)).2 20 [.s (.one (.fr 3 l1)), .s (.one (.fr 1 weights2))] [] =
    ((lvl Try.prog HH (n + 0)).1 ⟨20, 0, true⟩ 0 (loopOf Try.f20 0) (encSt S20_0 ((l1, weights2, (), (), 0, ()), ((0, 0, 0, ()), (0, 0, 0, ()), ())))).bind fun p39 =>
    bif sameEx (.exit 0) p39.1 then (decSt S20_0_e0 p39.2 fun x40 =>
      some (.s (.agg true [.v (.int .i64 x40.2.2.1.1), .v (.int .i64 x40.2.2.1.2.1), .v (.int .i64 x40.2.2.1.2.2.1)]), []))
    else
    none := by kernel_rfl

/-! armplan/armplanref1.Ceil -/
theorem fn23 (n : Nat) (a1 : Int) (b2 : Int) : (lvl Try.prog HH (n + 1)).2 23 [.s (.one (.v (.int .i64 a1))), .s (.one (.v (.int .i64 b2)))] [] =
    bif b2 == 0 then (
      none)
    else
    letIn (IntKind.wrap .i64 (Int.tdiv a1 b2) : Int) fun n3 =>
    bif b2 == 0 then (
      none)
    else
    letIn (Int.tmod a1 b2 : Int) fun n4 =>
    bif decide (n4 > 0) then (
      letIn (IntKind.wrap .i64 (n3 + 1) : Int) fun n5 =>
      some (.s (.one (.v (.int .i64 n5))), []))
    else
    some (.s (.one (.v (.int .i64 n3))), []) := by kernel_rfl

/-! armplan/armplanlaw16.OverlapSound -/
theorem fn8_w (w : CallF → CallF) (n : Nat) (l1 : List (List D1)) (m2 : List (List D1)) (w3 : List (List D1)) (o4 : List (List D1)) (r5 : List (List D1)) (p6 : Int) (q7 : Int) : (lvlW w Try.prog HH (n + 5)).2 8 [.s (.one (.fr 1 l1)), .s (.one (.fr 1 m2)), .s (.one (.fr 1 w3)), .s (.one (.fr 1 o4)), .s (.one (.fr 1 r5)), .s (.one (.v (.int .i64 p6))), .s (.one (.v (.int .i64 q7)))] [] =
    callT (w (lvlW w Try.prog HH (n + 4)).2) 10 [.s (.one (.fr 1 l1)), .s (.one (.v (.int .i64 3000)))] [] outs10 mouts10 fun y8 m9 =>
    callT (w (lvlW w Try.prog HH (n + 4)).2) 10 [.s (.one (.fr 1 m2)), .s (.one (.v (.int .i64 3000)))] [] outs10 mouts10 fun y10 m11 =>
    callT (w (lvlW w Try.prog HH (n + 4)).2) 11 [.s (.one (.v (.int .i64 (((y8.1.length : Nat) : Int))))), .s (.one (.v (.int .i64 (((y10.1.length : Nat) : Int))))), .s (.one (.fr 1 w3))] [] outs11 mouts11 fun y12 m13 =>
    callT (w (lvlW w Try.prog HH (n + 4)).2) 14 [.s (.one (.v (.int .i64 p6)))] [] outs14 mouts14 fun y14 m15 =>
    callT (w (lvlW w Try.prog HH (n + 4)).2) 14 [.s (.one (.v (.int .i64 q7)))] [] outs14 mouts14 fun y16 m17 =>
    callT (w (lvlW w Try.prog HH (n + 4)).2) 17 [.s (.one (.fr 1 y12.1)), .s (.one (.fr 1 y12.2.1)), .s (.one (.fr 6 y8.1)), .s (.one (.v (.int .i64 y14.1))), .s (.one (.fr 6 y10.1)), .s (.one (.v (.int .i64 y16.1)))] [] outs17 mouts17 fun y18 m19 =>
    bif !y18.1 then (
      callT (w (lvlW w Try.prog HH (n + 4)).2) 12 [] [] outs12 mouts12 fun y20 m21 =>
      some (.s (.one (.v (.bool y20.1))), []))
    else
    callT (w (lvlW w Try.prog HH (n + 4)).2) 18 [.s (.one (.fr 6 y8.1)), .s (.one (.fr 1 o4))] [] outs18 mouts18 fun y22 m23 =>
    callT (w (lvlW w Try.prog HH (n + 4)).2) 21 [.s (.one (.fr 6 y22.1))] [] outs21 mouts21 fun y24 m25 =>
    callT (w (lvlW w Try.prog HH (n + 4)).2) 20 [.s (.one (.fr 3 y24.1)), .s (.one (.fr 1 y12.1))] [] outs20 mouts20 fun y26 m27 =>
    callT (w (lvlW w Try.prog HH (n + 4)).2) 18 [.s (.one (.fr 6 y10.1)), .s (.one (.fr 1 r5))] [] outs18 mouts18 fun y28 m29 =>
    callT (w (lvlW w Try.prog HH (n + 4)).2) 21 [.s (.one (.fr 6 y28.1))] [] outs21 mouts21 fun y30 m31 =>
    callT (w (lvlW w Try.prog HH (n + 4)).2) 20 [.s (.one (.fr 3 y30.1)), .s (.one (.fr 1 y12.2.1))] [] outs20 mouts20 fun y32 m33 =>
    callT (w (lvlW w Try.prog HH (n + 4)).2) 22 [.s (.one (.fr 1 y12.1))] [] outs22 mouts22 fun y34 m35 =>
    Option.bind (
      letIn (IntKind.wrap .i64 (y26.1.1 - y32.1.1) : Int) fun n36 =>
      letIn (IntKind.wrap .i64 (y32.1.1 - y26.1.1) : Int) fun n37 =>
      letIn (if n37 > n36 then n37 else n36 : Int) fun n38 =>
      callT (w (lvlW w Try.prog HH (n + 3)).2) 23 [.s (.one (.v (.int .i64 n38))), .s (.one (.v (.int .i64 y34.1)))] [] outs23 mouts23 fun y39 m40 =>
      letIn (IntKind.wrap .i64 (y39.1 * y39.1) : Int) fun n41 =>
      letIn (IntKind.wrap .i64 (0 + n41) : Int) fun n42 =>
      letIn (IntKind.wrap .i64 (y26.1.2.1 - y32.1.2.1) : Int) fun n43 =>
      letIn (IntKind.wrap .i64 (y32.1.2.1 - y26.1.2.1) : Int) fun n44 =>
      letIn (if n44 > n43 then n44 else n43 : Int) fun n45 =>
      callT (w (lvlW w Try.prog HH (n + 2)).2) 23 [.s (.one (.v (.int .i64 n45))), .s (.one (.v (.int .i64 y34.1)))] [] outs23 mouts23 fun y46 m47 =>
      letIn (IntKind.wrap .i64 (y46.1 * y46.1) : Int) fun n48 =>
      letIn (IntKind.wrap .i64 (n42 + n48) : Int) fun n49 =>
      letIn (IntKind.wrap .i64 (y26.1.2.2.1 - y32.1.2.2.1) : Int) fun n50 =>
      letIn (IntKind.wrap .i64 (y32.1.2.2.1 - y26.1.2.2.1) : Int) fun n51 =>
      letIn (if n51 > n50 then n51 else n50 : Int) fun n52 =>
      callT (w (lvlW w Try.prog HH (n + 1)).2) 23 [.s (.one (.v (.int .i64 n52))), .s (.one (.v (.int .i64 y34.1)))] [] outs23 mouts23 fun y53 m54 =>
      letIn (IntKind.wrap .i64 (y53.1 * y53.1) : Int) fun n55 =>
      letIn (IntKind.wrap .i64 (n49 + n55) : Int) fun n56 =>
      some (.exit 0, encSt S8_0_e0 ((p6, q7, n56, ()), ()))) fun p57 =>
    bif sameEx (.exit 0) p57.1 then (decSt S8_0_e0 p57.2 fun x58 =>
      callT (w (lvlW w Try.prog HH (n + 4)).2) 12 [] [] outs12 mouts12 fun y59 m60 =>
      bif y59.1 then (
        callT (w (lvlW w Try.prog HH (n + 4)).2) 14 [.s (.one (.v (.int .i64 x58.1.1)))] [] outs14 mouts14 fun y61 m62 =>
        callT (w (lvlW w Try.prog HH (n + 4)).2) 14 [.s (.one (.v (.int .i64 x58.1.2.1)))] [] outs14 mouts14 fun y63 m64 =>
        letIn (IntKind.wrap .i64 (y61.1 + y63.1) : Int) fun n65 =>
        callT (w (lvlW w Try.prog HH (n + 4)).2) 14 [.s (.one (.v (.int .i64 x58.1.1)))] [] outs14 mouts14 fun y66 m67 =>
        callT (w (lvlW w Try.prog HH (n + 4)).2) 14 [.s (.one (.v (.int .i64 x58.1.2.1)))] [] outs14 mouts14 fun y68 m69 =>
        letIn (IntKind.wrap .i64 (y66.1 + y68.1) : Int) fun n70 =>
        letIn (IntKind.wrap .i64 (n65 * n70) : Int) fun n71 =>
        some (.s (.one (.v (.bool (decide (x58.1.2.2.1 ≤ n71))))), []))
      else
      some (.s (.one (.v (.bool false))), []))
    else
    none := by kernel_rfl
theorem fn8 (n : Nat) (l1 : List (List D1)) (m2 : List (List D1)) (w3 : List (List D1)) (o4 : List (List D1)) (r5 : List (List D1)) (p6 : Int) (q7 : Int) : (lvl Try.prog HH (n + 5)).2 8 [.s (.one (.fr 1 l1)), .s (.one (.fr 1 m2)), .s (.one (.fr 1 w3)), .s (.one (.fr 1 o4)), .s (.one (.fr 1 r5)), .s (.one (.v (.int .i64 p6))), .s (.one (.v (.int .i64 q7)))] [] =
    callT (lvl Try.prog HH (n + 4)).2 10 [.s (.one (.fr 1 l1)), .s (.one (.v (.int .i64 3000)))] [] outs10 mouts10 fun y8 m9 =>
    callT (lvl Try.prog HH (n + 4)).2 10 [.s (.one (.fr 1 m2)), .s (.one (.v (.int .i64 3000)))] [] outs10 mouts10 fun y10 m11 =>
    callT (lvl Try.prog HH (n + 4)).2 11 [.s (.one (.v (.int .i64 (((y8.1.length : Nat) : Int))))), .s (.one (.v (.int .i64 (((y10.1.length : Nat) : Int))))), .s (.one (.fr 1 w3))] [] outs11 mouts11 fun y12 m13 =>
    callT (lvl Try.prog HH (n + 4)).2 14 [.s (.one (.v (.int .i64 p6)))] [] outs14 mouts14 fun y14 m15 =>
    callT (lvl Try.prog HH (n + 4)).2 14 [.s (.one (.v (.int .i64 q7)))] [] outs14 mouts14 fun y16 m17 =>
    callT (lvl Try.prog HH (n + 4)).2 17 [.s (.one (.fr 1 y12.1)), .s (.one (.fr 1 y12.2.1)), .s (.one (.fr 6 y8.1)), .s (.one (.v (.int .i64 y14.1))), .s (.one (.fr 6 y10.1)), .s (.one (.v (.int .i64 y16.1)))] [] outs17 mouts17 fun y18 m19 =>
    bif !y18.1 then (
      callT (lvl Try.prog HH (n + 4)).2 12 [] [] outs12 mouts12 fun y20 m21 =>
      some (.s (.one (.v (.bool y20.1))), []))
    else
    callT (lvl Try.prog HH (n + 4)).2 18 [.s (.one (.fr 6 y8.1)), .s (.one (.fr 1 o4))] [] outs18 mouts18 fun y22 m23 =>
    callT (lvl Try.prog HH (n + 4)).2 21 [.s (.one (.fr 6 y22.1))] [] outs21 mouts21 fun y24 m25 =>
    callT (lvl Try.prog HH (n + 4)).2 20 [.s (.one (.fr 3 y24.1)), .s (.one (.fr 1 y12.1))] [] outs20 mouts20 fun y26 m27 =>
    callT (lvl Try.prog HH (n + 4)).2 18 [.s (.one (.fr 6 y10.1)), .s (.one (.fr 1 r5))] [] outs18 mouts18 fun y28 m29 =>
    callT (lvl Try.prog HH (n + 4)).2 21 [.s (.one (.fr 6 y28.1))] [] outs21 mouts21 fun y30 m31 =>
    callT (lvl Try.prog HH (n + 4)).2 20 [.s (.one (.fr 3 y30.1)), .s (.one (.fr 1 y12.2.1))] [] outs20 mouts20 fun y32 m33 =>
    callT (lvl Try.prog HH (n + 4)).2 22 [.s (.one (.fr 1 y12.1))] [] outs22 mouts22 fun y34 m35 =>
    Option.bind (
      letIn (IntKind.wrap .i64 (y26.1.1 - y32.1.1) : Int) fun n36 =>
      letIn (IntKind.wrap .i64 (y32.1.1 - y26.1.1) : Int) fun n37 =>
      letIn (if n37 > n36 then n37 else n36 : Int) fun n38 =>
      callT (lvl Try.prog HH (n + 3)).2 23 [.s (.one (.v (.int .i64 n38))), .s (.one (.v (.int .i64 y34.1)))] [] outs23 mouts23 fun y39 m40 =>
      letIn (IntKind.wrap .i64 (y39.1 * y39.1) : Int) fun n41 =>
      letIn (IntKind.wrap .i64 (0 + n41) : Int) fun n42 =>
      letIn (IntKind.wrap .i64 (y26.1.2.1 - y32.1.2.1) : Int) fun n43 =>
      letIn (IntKind.wrap .i64 (y32.1.2.1 - y26.1.2.1) : Int) fun n44 =>
      letIn (if n44 > n43 then n44 else n43 : Int) fun n45 =>
      callT (lvl Try.prog HH (n + 2)).2 23 [.s (.one (.v (.int .i64 n45))), .s (.one (.v (.int .i64 y34.1)))] [] outs23 mouts23 fun y46 m47 =>
      letIn (IntKind.wrap .i64 (y46.1 * y46.1) : Int) fun n48 =>
      letIn (IntKind.wrap .i64 (n42 + n48) : Int) fun n49 =>
      letIn (IntKind.wrap .i64 (y26.1.2.2.1 - y32.1.2.2.1) : Int) fun n50 =>
      letIn (IntKind.wrap .i64 (y32.1.2.2.1 - y26.1.2.2.1) : Int) fun n51 =>
      letIn (if n51 > n50 then n51 else n50 : Int) fun n52 =>
      callT (lvl Try.prog HH (n + 1)).2 23 [.s (.one (.v (.int .i64 n52))), .s (.one (.v (.int .i64 y34.1)))] [] outs23 mouts23 fun y53 m54 =>
      letIn (IntKind.wrap .i64 (y53.1 * y53.1) : Int) fun n55 =>
      letIn (IntKind.wrap .i64 (n49 + n55) : Int) fun n56 =>
      some (.exit 0, encSt S8_0_e0 ((p6, q7, n56, ()), ()))) fun p57 =>
    bif sameEx (.exit 0) p57.1 then (decSt S8_0_e0 p57.2 fun x58 =>
      callT (lvl Try.prog HH (n + 4)).2 12 [] [] outs12 mouts12 fun y59 m60 =>
      bif y59.1 then (
        callT (lvl Try.prog HH (n + 4)).2 14 [.s (.one (.v (.int .i64 x58.1.1)))] [] outs14 mouts14 fun y61 m62 =>
        callT (lvl Try.prog HH (n + 4)).2 14 [.s (.one (.v (.int .i64 x58.1.2.1)))] [] outs14 mouts14 fun y63 m64 =>
        letIn (IntKind.wrap .i64 (y61.1 + y63.1) : Int) fun n65 =>
        callT (lvl Try.prog HH (n + 4)).2 14 [.s (.one (.v (.int .i64 x58.1.1)))] [] outs14 mouts14 fun y66 m67 =>
        callT (lvl Try.prog HH (n + 4)).2 14 [.s (.one (.v (.int .i64 x58.1.2.1)))] [] outs14 mouts14 fun y68 m69 =>
        letIn (IntKind.wrap .i64 (y66.1 + y68.1) : Int) fun n70 =>
        letIn (IntKind.wrap .i64 (n65 * n70) : Int) fun n71 =>
        some (.s (.one (.v (.bool (decide (x58.1.2.2.1 ≤ n71))))), []))
      else
      some (.s (.one (.v (.bool false))), []))
    else
    none := by
  have h := fn8_w (fun x => x) n l1 m2 w3 o4 r5 p6 q7
  rw [lvlW_id] at h
  exact h

end Go.Proofs.Ytilffjjibcebmaa.Am
