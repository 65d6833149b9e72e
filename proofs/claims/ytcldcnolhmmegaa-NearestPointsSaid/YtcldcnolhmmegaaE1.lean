/- PRINTED by amprint.py: what the abstract machine answers, function by function. -/
import Derived.Test.YtcldcnolhmmegaaH
import Derived.KernelRfl
set_option linter.unusedVariables false
set_option maxRecDepth 100000
namespace Go.Proofs.Ytcldcnolhmmegaa.Am
open Go Go.Proofs

/-! slices.ContainsFunc[[]armplan/api.Vec,armplan/api.Vec] -/
theorem fn48s0 (n : Nat) (s1 : List (List D1)) : (lvl Try.prog HH (n + 1)).2 48 [.s (.one (.fr 3 s1)), .s (.one (.v (.func (.func 49) #[] #[])))] [] =
    callT (lvl Try.prog HH (n + 0)).2 66 [.s (.one (.fr 3 s1)), .s (.one (.v (.func (.func 49) #[] #[])))] [] outs66 mouts66 fun y2 m3 =>
    some (.s (.one (.v (.bool (decide (y2.1 ≥ 0))))), []) := by kernel_rfl

/-! armplan/nearest.points -/
theorem fn26 (n : Nat) (l1 : List (List D1)) : (lvl Try.prog HH (n + 1)).2 26 [.s (.one (.fr 3 l1))] [] =
    bif decide ((((l1.length : Nat) : Int)) ≥ 1) then (
      bif decide ((((l1.length : Nat) : Int)) ≤ 8) then (
        callT (lvl Try.prog HH (n + 0)).2 48 [.s (.one (.fr 3 l1)), .s (.one (.v (.func (.func 49) #[] #[])))] [] outs48 mouts48 fun y2 m3 =>
        some (.s (.one (.v (.bool (!y2.1)))), []))
      else
      some (.s (.one (.v (.bool false))), []))
    else
    some (.s (.one (.v (.bool false))), []) := by kernel_rfl

/-! armplan/nearest.single -/
theorem fn27 (n : Nat) (n1 : Int) : (lvl Try.prog HH (n + 1)).2 27 [.s (.one (.v (.int .i64 n1)))] [] =
    bif (decide (0 ≤ n1)) && (decide (n1 ≤ n1)) && (decide (n1 ≤ n1)) && decide (n1.toNat * 8 ≤ 140737488355328) then (
      (nth ((List.replicate n1.toNat [.v (.int .i64 0)]) : List (List D1)) 0).bind fun cs2 =>
      (nth ((List.replicate n1.toNat [.v (.int .i64 0)]) : List (List D1)) 0).bind fun cs3 =>
      (setCells cs3 0 [.v (.int .i64 65536)]).bind fun cs4 =>
      some (.s (.one (.fs 0)), [.own 1 true (upd (List.replicate n1.toNat [.v (.int .i64 0)]) 0 cs4)]))
    else
    none := by kernel_rfl

/-! (armplan/nearest.weights).add -/
theorem loop69s0_0 (n : Nat) (v7 : Int) (v8 : List (List D1)) (v9 : Int) (v10 : Int) (es11 : List (List D1)) (c12 : Int) (c13 : Int) (c14 : Int) : (lvl Try.prog HH (n + 5)).1 ⟨69, 2, false⟩ 0 (loopOf Try.f69 0) (encSt S69s0_0 (((), (), v7, v8, v9, v10, ()), (es11, (c12, c13, c14, ()), ()))) =
    bif decide (v10 < v9) then (
      bif decide (0 ≤ v10) then (
        (nth v8 v10.toNat).bind fun cs15 =>
        bif Nat.beq ((cs15.drop 0).take 3).length 3 then (
          decCts [.int .i64, .int .i64, .int .i64] ((cs15.drop 0).take 3) fun c16 =>
          Option.bind (
            bif decide (0 ≤ v10) then (
              (nth es11 v10.toNat).bind fun cs17 =>
              (nth es11 v10.toNat).bind fun cs18 =>
              (nth cs18 0).bind fun d19 =>
              (asInt? .i64 d19).bind fun n20 =>
              letIn (IntKind.wrap .i64 (v7 * n20) : Int) fun n21 =>
              letIn (IntKind.wrap .i64 (n21 * c16.1) : Int) fun n22 =>
              letIn (IntKind.wrap .i64 (c12 + n22) : Int) fun n23 =>
              bif decide (0 ≤ v10) then (
                (nth es11 v10.toNat).bind fun cs24 =>
                (nth es11 v10.toNat).bind fun cs25 =>
                (nth cs25 0).bind fun d26 =>
                (asInt? .i64 d26).bind fun n27 =>
                letIn (IntKind.wrap .i64 (v7 * n27) : Int) fun n28 =>
                letIn (IntKind.wrap .i64 (n28 * c16.2.1) : Int) fun n29 =>
                letIn (IntKind.wrap .i64 (c13 + n29) : Int) fun n30 =>
                bif decide (0 ≤ v10) then (
                  (nth es11 v10.toNat).bind fun cs31 =>
                  (nth es11 v10.toNat).bind fun cs32 =>
                  (nth cs32 0).bind fun d33 =>
                  (asInt? .i64 d33).bind fun n34 =>
                  letIn (IntKind.wrap .i64 (v7 * n34) : Int) fun n35 =>
                  letIn (IntKind.wrap .i64 (n35 * c16.2.2.1) : Int) fun n36 =>
                  letIn (IntKind.wrap .i64 (c14 + n36) : Int) fun n37 =>
                  some (.exit 2, encSt S69s0_2_e2 (((), (), v7, v8, v9, v10, ()), (es11, (n23, n30, n37, ()), ()))))
                else
                none)
              else
              none)
            else
            none) fun p38 =>
          bif sameEx (.exit 2) p38.1 then (decSt S69s0_2_e2 p38.2 fun x39 =>
            letIn (IntKind.wrap .i64 (x39.1.2.2.2.2.2.1 + 1) : Int) fun n40 =>
            (lvl Try.prog HH (n + 4)).1 ⟨69, 2, false⟩ 0 (loopOf Try.f69 0) (encSt S69s0_0 (((), (), x39.1.2.2.1, x39.1.2.2.2.1, x39.1.2.2.2.2.1, n40, ()), (x39.2.1, (x39.2.2.1.1, x39.2.2.1.2.1, x39.2.2.1.2.2.1, ()), ()))))
          else
          none)
        else
        none)
      else
      none)
    else
    some (.exit 0, encSt S69s0_0_e0 ((), (es11, (c12, c13, c14, ()), ()))) := by kernel_rfl

theorem fn69s0 (n : Nat) (points1 : List (List D1)) (sign2 : Int) (es3 : List (List D1)) (c4 : Int) (c5 : Int) (c6 : Int) : (lvl Try.prog HH (n + 1)).2 69 [.s (.one (.fs 0)), .s (.one (.ptr 1 0 0)), .s (.one (.fr 3 points1)), .s (.one (.v (.int .i64 sign2)))] [.own 1 true es3, .own 3 true [[.v (.int .i64 c4), .v (.int .i64 c5), .v (.int .i64 c6)]]] =
    ((lvl Try.prog HH (n + 0)).1 ⟨69, 2, false⟩ 0 (loopOf Try.f69 0) (encSt S69s0_0 (((), (), sign2, points1, (((points1.length : Nat) : Int)), 0, ()), (es3, (c4, c5, c6, ()), ())))).bind fun p41 =>
    bif sameEx (.exit 0) p41.1 then (decSt S69s0_0_e0 p41.2 fun x42 =>
      some (.tup [], [.own 1 true x42.2.1, .own 3 true [[.v (.int .i64 x42.2.2.1.1), .v (.int .i64 x42.2.2.1.2.1), .v (.int .i64 x42.2.2.1.2.2.1)]]]))
    else
    none := by kernel_rfl

/-! (*armplan/nearest.sides).between -/
theorem fn50s0 (n : Nat) (a1 : List (List D1)) (b2 : List (List D1)) (c3 : List (List D1)) (c4 : List (List D1)) (c5 : Int) (c6 : Int) (c7 : Int) (c8 : Int) (c9 : Int) (c10 : Int) (es11 : List (List D1)) (es12 : List (List D1)) : (lvl Try.prog HH (n + 1)).2 50 [.s (.one (.ptr 0 0 0)), .s (.one (.fr 3 a1)), .s (.one (.fr 3 b2))] [.own 10 false [[.fs 1, .fs 2, .fr 3 c3, .fr 3 c4, .v (.int .i64 c5), .v (.int .i64 c6), .v (.int .i64 c7), .v (.int .i64 c8), .v (.int .i64 c9), .v (.int .i64 c10)]], .own 1 true es11, .own 1 true es12] =
    callT (lvl Try.prog HH (n + 0)).2 69 [.s (.one (.fs 0)), .s (.one (.ptr 1 0 0)), .s (.one (.fr 3 a1)), .s (.one (.v (.int .i64 1)))] [.own 1 true es11, .own 3 true [[.v (.int .i64 0), .v (.int .i64 0), .v (.int .i64 0)]]] outs69 mouts69 fun y13 m14 =>
    callT (lvl Try.prog HH (n + 0)).2 69 [.s (.one (.fs 0)), .s (.one (.ptr 1 0 0)), .s (.one (.fr 3 b2)), .s (.one (.v (.int .i64 (-1))))] [.own 1 true es12, .own 3 true [[.v (.int .i64 m14.2.1.1), .v (.int .i64 m14.2.1.2.1), .v (.int .i64 m14.2.1.2.2.1)]]] outs69 mouts69 fun y15 m16 =>
    some (.s (.agg true [.v (.int .i64 m16.2.1.1), .v (.int .i64 m16.2.1.2.1), .v (.int .i64 m16.2.1.2.2.1)]), [.own 10 false [[.fs 1, .fs 2, .fr 3 c3, .fr 3 c4, .v (.int .i64 c5), .v (.int .i64 c6), .v (.int .i64 c7), .v (.int .i64 c8), .v (.int .i64 c9), .v (.int .i64 c10)]], .own 1 true m14.1, .own 1 true m16.1]) := by kernel_rfl

/-! armplan/nearest.lengths -/
theorem fn51 (n : Nat) (v1 : Int) (v2 : Int) (v3 : Int) : (lvl Try.prog HH (n + 5)).2 51 [.s (.agg true [.v (.int .i64 v1), .v (.int .i64 v2), .v (.int .i64 v3)])] [] =
    letIn (IntKind.wrap .i64 (0 - v1) : Int) fun n4 =>
    letIn (if n4 > v1 then n4 else v1 : Int) fun n5 =>
    letIn (IntKind.wrap .i64 (n5 + 65536) : Int) fun n6 =>
    letIn (IntKind.wrap .i64 (n6 - 1) : Int) fun n7 =>
    letIn (IntKind.wrap .i64 (Int.tdiv n7 65536) : Int) fun n8 =>
    letIn (IntKind.wrap .i64 (0 - v2) : Int) fun n9 =>
    letIn (if n9 > v2 then n9 else v2 : Int) fun n10 =>
    letIn (IntKind.wrap .i64 (n10 + 65536) : Int) fun n11 =>
    letIn (IntKind.wrap .i64 (n11 - 1) : Int) fun n12 =>
    letIn (IntKind.wrap .i64 (Int.tdiv n12 65536) : Int) fun n13 =>
    letIn (IntKind.wrap .i64 (0 - v3) : Int) fun n14 =>
    letIn (if n14 > v3 then n14 else v3 : Int) fun n15 =>
    letIn (IntKind.wrap .i64 (n15 + 65536) : Int) fun n16 =>
    letIn (IntKind.wrap .i64 (n16 - 1) : Int) fun n17 =>
    letIn (IntKind.wrap .i64 (Int.tdiv n17 65536) : Int) fun n18 =>
    some (.s (.agg true [.v (.int .i64 n8), .v (.int .i64 n13), .v (.int .i64 n18)]), []) := by kernel_rfl

/-! armplan/nearest.dot -/
theorem fn52 (n : Nat) (x1 : Int) (x2 : Int) (x3 : Int) (y4 : Int) (y5 : Int) (y6 : Int) : (lvl Try.prog HH (n + 1)).2 52 [.s (.agg true [.v (.int .i64 x1), .v (.int .i64 x2), .v (.int .i64 x3)]), .s (.agg true [.v (.int .i64 y4), .v (.int .i64 y5), .v (.int .i64 y6)])] [] =
    letIn (IntKind.wrap .i64 (x1 * y4) : Int) fun n7 =>
    letIn (IntKind.wrap .i64 (x2 * y5) : Int) fun n8 =>
    letIn (IntKind.wrap .i64 (n7 + n8) : Int) fun n9 =>
    letIn (IntKind.wrap .i64 (x3 * y6) : Int) fun n10 =>
    letIn (IntKind.wrap .i64 (n9 + n10) : Int) fun n11 =>
    some (.s (.one (.v (.int .i64 n11))), []) := by kernel_rfl

/-! armplan/support.fits -/
theorem fn70 (n : Nat) (v1 : Int) (v2 : Int) (v3 : Int) : (lvl Try.prog HH (n + 5)).2 70 [.s (.agg true [.v (.int .i64 v1), .v (.int .i64 v2), .v (.int .i64 v3)])] [] =
    Option.bind (
      bif decide (v1 < (-16384)) then (
        some (.ret, encSt S70_0_r ((false, ()), ())))
      else
      bif decide (v1 > 16384) then (
        some (.ret, encSt S70_0_r ((false, ()), ())))
      else
      bif decide (v2 < (-16384)) then (
        some (.ret, encSt S70_0_r ((false, ()), ())))
      else
      bif decide (v2 > 16384) then (
        some (.ret, encSt S70_0_r ((false, ()), ())))
      else
      bif decide (v3 < (-16384)) then (
        some (.ret, encSt S70_0_r ((false, ()), ())))
      else
      bif decide (v3 > 16384) then (
        some (.ret, encSt S70_0_r ((false, ()), ())))
      else
      some (.exit 0, encSt S70_0_e0 ((), ()))) fun p4 =>
    bif sameEx (.ret) p4.1 then (decSt S70_0_r p4.2 fun x5 =>
      some (.s (.one (.v (.bool x5.1.1))), []))
    else
    bif sameEx (.exit 0) p4.1 then (decSt S70_0_e0 p4.2 fun x6 =>
      some (.s (.one (.v (.bool true))), []))
    else
    none := by kernel_rfl

/-! armplan/support.Normal -/
theorem loop53_0_w (w : CallF → CallF) (v : LoopF → LoopF) (n : Nat) (v6 : Int) (c7 : Int) (c8 : Int) (c9 : Int) (c10 : Int) (c11 : Int) (c12 : Int) (c13 : Int) (c14 : Int) (c15 : Int) : (lvlW w v symL Try.prog HH (n + 5)).1 ⟨53, 0, true⟩ 0 (loopOf Try.f53 0) (encSt S53_0 (((), (), (), v6, ()), ((c7, c8, c9, ()), (c10, c11, c12, ()), (c13, c14, c15, ()), ()))) =
    callT (w (lvlW w v symL Try.prog HH (n + 4)).2) 70 [.s (.agg true [.v (.int .i64 c13), .v (.int .i64 c14), .v (.int .i64 c15)])] [] outs70 mouts70 fun y16 m17 =>
    bif !y16.1 then (
      Option.bind (
        bif decide (v6 < 0) then (
          none)
        else
        letIn (IntKind.wrap .i64 (1 * (2 ^ min v6.toNat 64)) : Int) fun n18 =>
        bif n18 == 0 then (
          none)
        else
        letIn (IntKind.wrap .i64 (Int.tdiv c7 n18) : Int) fun n19 =>
        bif decide (v6 < 0) then (
          none)
        else
        letIn (IntKind.wrap .i64 (1 * (2 ^ min v6.toNat 64)) : Int) fun n20 =>
        bif n20 == 0 then (
          none)
        else
        letIn (IntKind.wrap .i64 (Int.tdiv c8 n20) : Int) fun n21 =>
        bif decide (v6 < 0) then (
          none)
        else
        letIn (IntKind.wrap .i64 (1 * (2 ^ min v6.toNat 64)) : Int) fun n22 =>
        bif n22 == 0 then (
          none)
        else
        letIn (IntKind.wrap .i64 (Int.tdiv c9 n22) : Int) fun n23 =>
        some (.exit 2, encSt S53_2_e2 (((), (), (), v6, ()), ((c7, c8, c9, ()), (c10, c11, c12, ()), (n19, n21, n23, ()), ())))) fun p24 =>
      bif sameEx (.exit 2) p24.1 then (decSt S53_2_e2 p24.2 fun x25 =>
        letIn (IntKind.wrap .i64 (x25.1.2.2.2.1 + 1) : Int) fun n26 =>
        v (lvlW w v symL Try.prog HH (n + 4)).1 ⟨53, 0, true⟩ 0 (loopOf Try.f53 0) (encSt S53_0 (((), (), (), n26, ()), ((x25.2.1.1, x25.2.1.2.1, x25.2.1.2.2.1, ()), (x25.2.2.1.1, x25.2.2.1.2.1, x25.2.2.1.2.2.1, ()), (x25.2.2.2.1.1, x25.2.2.2.1.2.1, x25.2.2.2.1.2.2.1, ()), ()))))
      else
      none)
    else
    some (.exit 0, encSt S53_0_e0 (((), (), ()), ((c10, c11, c12, ()), (c13, c14, c15, ()), ()))) := by kernel_rfl
theorem loop53_0 (n : Nat) (v6 : Int) (c7 : Int) (c8 : Int) (c9 : Int) (c10 : Int) (c11 : Int) (c12 : Int) (c13 : Int) (c14 : Int) (c15 : Int) : (lvl Try.prog HH (n + 5)).1 ⟨53, 0, true⟩ 0 (loopOf Try.f53 0) (encSt S53_0 (((), (), (), v6, ()), ((c7, c8, c9, ()), (c10, c11, c12, ()), (c13, c14, c15, ()), ()))) =
    callT (lvl Try.prog HH (n + 4)).2 70 [.s (.agg true [.v (.int .i64 c13), .v (.int .i64 c14), .v (.int .i64 c15)])] [] outs70 mouts70 fun y16 m17 =>
    bif !y16.1 then (
      Option.bind (
        bif decide (v6 < 0) then (
          none)
        else
        letIn (IntKind.wrap .i64 (1 * (2 ^ min v6.toNat 64)) : Int) fun n18 =>
        bif n18 == 0 then (
          none)
        else
        letIn (IntKind.wrap .i64 (Int.tdiv c7 n18) : Int) fun n19 =>
        bif decide (v6 < 0) then (
          none)
        else
        letIn (IntKind.wrap .i64 (1 * (2 ^ min v6.toNat 64)) : Int) fun n20 =>
        bif n20 == 0 then (
          none)
        else
        letIn (IntKind.wrap .i64 (Int.tdiv c8 n20) : Int) fun n21 =>
        bif decide (v6 < 0) then (
          none)
        else
        letIn (IntKind.wrap .i64 (1 * (2 ^ min v6.toNat 64)) : Int) fun n22 =>
        bif n22 == 0 then (
          none)
        else
        letIn (IntKind.wrap .i64 (Int.tdiv c9 n22) : Int) fun n23 =>
        some (.exit 2, encSt S53_2_e2 (((), (), (), v6, ()), ((c7, c8, c9, ()), (c10, c11, c12, ()), (n19, n21, n23, ()), ())))) fun p24 =>
      bif sameEx (.exit 2) p24.1 then (decSt S53_2_e2 p24.2 fun x25 =>
        letIn (IntKind.wrap .i64 (x25.1.2.2.2.1 + 1) : Int) fun n26 =>
        (lvl Try.prog HH (n + 4)).1 ⟨53, 0, true⟩ 0 (loopOf Try.f53 0) (encSt S53_0 (((), (), (), n26, ()), ((x25.2.1.1, x25.2.1.2.1, x25.2.1.2.2.1, ()), (x25.2.2.1.1, x25.2.2.1.2.1, x25.2.2.1.2.2.1, ()), (x25.2.2.2.1.1, x25.2.2.2.1.2.1, x25.2.2.2.1.2.2.1, ()), ()))))
      else
      none)
    else
    some (.exit 0, encSt S53_0_e0 (((), (), ()), ((c10, c11, c12, ()), (c13, c14, c15, ()), ()))) := by
  have h := loop53_0_w (fun x => x) (fun x => x) n v6 c7 c8 c9 c10 c11 c12 c13 c14 c15
  rw [lvlW_id] at h
  exact h

theorem fn53 (n : Nat) (v1 : Int) (v2 : Int) (v3 : Int) : (lvl Try.prog HH (n + 1)).2 53 [.s (.agg true [.v (.int .i64 v1), .v (.int .i64 v2), .v (.int .i64 v3)])] [] =
    ((lvl Try.prog HH (n + 0)).1 ⟨53, 0, true⟩ 0 (loopOf Try.f53 0) (encSt S53_0 (((), (), (), 1, ()), ((v1, v2, v3, ()), (0, 0, 0, ()), (v1, v2, v3, ()), ())))).bind fun p27 =>
    bif sameEx (.exit 0) p27.1 then (decSt S53_0_e0 p27.2 fun x28 =>
      letIn (!((x28.2.2.1.1 == 0) && ((x28.2.2.1.2.1 == 0) && ((x28.2.2.1.2.2.1 == 0) && true))) : Bool) fun b29 =>
      some (.tup [.agg true [.v (.int .i64 x28.2.2.1.1), .v (.int .i64 x28.2.2.1.2.1), .v (.int .i64 x28.2.2.1.2.2.1)], .one (.v (.bool b29))], []))
    else
    none := by kernel_rfl

/-! armplan/nearest.least -/
theorem loop54_0 (n : Nat) (v5 : List (List D1)) (v6 : Int) (v7 : List (List D1)) (v8 : Int) (v9 : Int) (c10 : Int) (c11 : Int) (c12 : Int) : (lvl Try.prog HH (n + 1)).1 ⟨54, 0, true⟩ 0 (loopOf Try.f54 0) (encSt S54_0 ((v5, (), v6, v7, v8, v9, ()), ((c10, c11, c12, ()), ()))) =
    bif decide (v9 < v8) then (
      bif decide (0 ≤ v9) then (
        (nth v7 v9.toNat).bind fun cs13 =>
        bif Nat.beq ((cs13.drop 0).take 3).length 3 then (
          decCts [.int .i64, .int .i64, .int .i64] ((cs13.drop 0).take 3) fun c14 =>
          callT (lvl Try.prog HH (n + 0)).2 52 [.s (.agg true [.v (.int .i64 c10), .v (.int .i64 c11), .v (.int .i64 c12)]), .s (.agg true [.v (.int .i64 c14.1), .v (.int .i64 c14.2.1), .v (.int .i64 c14.2.2.1)])] [] outs52 mouts52 fun y15 m16 =>
          bif decide (0 ≤ v6) then (
            (nth v5 v6.toNat).bind fun cs17 =>
            bif Nat.beq ((cs17.drop 0).take 3).length 3 then (
              decCts [.int .i64, .int .i64, .int .i64] ((cs17.drop 0).take 3) fun c18 =>
              callT (lvl Try.prog HH (n + 0)).2 52 [.s (.agg true [.v (.int .i64 c10), .v (.int .i64 c11), .v (.int .i64 c12)]), .s (.agg true [.v (.int .i64 c18.1), .v (.int .i64 c18.2.1), .v (.int .i64 c18.2.2.1)])] [] outs52 mouts52 fun y19 m20 =>
              bif decide (y15.1 < y19.1) then (
                letIn (IntKind.wrap .i64 (v9 + 1) : Int) fun n21 =>
                (lvl Try.prog HH (n + 0)).1 ⟨54, 0, true⟩ 0 (loopOf Try.f54 0) (encSt S54_0 ((v5, (), v9, v7, v8, n21, ()), ((c10, c11, c12, ()), ()))))
              else
              letIn (IntKind.wrap .i64 (v9 + 1) : Int) fun n22 =>
              (lvl Try.prog HH (n + 0)).1 ⟨54, 0, true⟩ 0 (loopOf Try.f54 0) (encSt S54_0 ((v5, (), v6, v7, v8, n22, ()), ((c10, c11, c12, ()), ()))))
            else
            none)
          else
          none)
        else
        none)
      else
      none)
    else
    some (.exit 0, encSt S54_0_e0 ((v6, ()), ())) := by kernel_rfl

theorem fn54 (n : Nat) (n1 : Int) (n2 : Int) (n3 : Int) (l4 : List (List D1)) : (lvl Try.prog HH (n + 1)).2 54 [.s (.agg true [.v (.int .i64 n1), .v (.int .i64 n2), .v (.int .i64 n3)]), .s (.one (.fr 3 l4))] [] =
    ((lvl Try.prog HH (n + 0)).1 ⟨54, 0, true⟩ 0 (loopOf Try.f54 0) (encSt S54_0 ((l4, (), 0, l4, (((l4.length : Nat) : Int)), 0, ()), ((n1, n2, n3, ()), ())))).bind fun p23 =>
    bif sameEx (.exit 0) p23.1 then (decSt S54_0_e0 p23.2 fun x24 =>
      some (.s (.one (.v (.int .i64 x24.1.1))), []))
    else
    none := by kernel_rfl

/-! armplan/nearest.minus -/
theorem fn55 (n : Nat) (x1 : Int) (x2 : Int) (x3 : Int) (y4 : Int) (y5 : Int) (y6 : Int) : (lvl Try.prog HH (n + 1)).2 55 [.s (.agg true [.v (.int .i64 x1), .v (.int .i64 x2), .v (.int .i64 x3)]), .s (.agg true [.v (.int .i64 y4), .v (.int .i64 y5), .v (.int .i64 y6)])] [] =
    letIn (IntKind.wrap .i64 (x1 - y4) : Int) fun n7 =>
    letIn (IntKind.wrap .i64 (x2 - y5) : Int) fun n8 =>
    letIn (IntKind.wrap .i64 (x3 - y6) : Int) fun n9 =>
    some (.s (.agg true [.v (.int .i64 n7), .v (.int .i64 n8), .v (.int .i64 n9)]), []) := by kernel_rfl

/-! armplan/support.Usable -/
theorem fn71 (n : Nat) (n1 : Int) (n2 : Int) (n3 : Int) : (lvl Try.prog HH (n + 1)).2 71 [.s (.agg true [.v (.int .i64 n1), .v (.int .i64 n2), .v (.int .i64 n3)])] [] =
    callT (lvl Try.prog HH (n + 0)).2 70 [.s (.agg true [.v (.int .i64 n1), .v (.int .i64 n2), .v (.int .i64 n3)])] [] outs70 mouts70 fun y4 m5 =>
    bif y4.1 then (
      letIn (!((n1 == 0) && ((n2 == 0) && ((n3 == 0) && true))) : Bool) fun b6 =>
      some (.s (.one (.v (.bool b6))), []))
    else
    some (.s (.one (.v (.bool false))), []) := by kernel_rfl

/-! armplan/fixed.Root -/
theorem loop76_0 (n : Nat) (v2 : Int) (v3 : Int) (v4 : Int) : (lvl Try.prog HH (n + 1)).1 ⟨76, 0, true⟩ 0 (loopOf Try.f76 0) (encSt S76_0 ((v2, v3, v4, ()), ())) =
    bif decide (v4 < 32) then (
      letIn (IntKind.wrap .i64 (31 - v4) : Int) fun n5 =>
      bif decide (n5 < 0) then (
        none)
      else
      letIn (IntKind.wrap .i64 (1 * (2 ^ min n5.toNat 64)) : Int) fun n6 =>
      letIn (IntKind.wrap .i64 (v3 + n6) : Int) fun n7 =>
      bif n7 == 0 then (
        none)
      else
      letIn (IntKind.wrap .i64 (Int.tdiv v2 n7) : Int) fun n8 =>
      bif decide (n7 ≤ n8) then (
        letIn (IntKind.wrap .i64 (v4 + 1) : Int) fun n9 =>
        (lvl Try.prog HH (n + 0)).1 ⟨76, 0, true⟩ 0 (loopOf Try.f76 0) (encSt S76_0 ((v2, n7, n9, ()), ())))
      else
      letIn (IntKind.wrap .i64 (v4 + 1) : Int) fun n10 =>
      (lvl Try.prog HH (n + 0)).1 ⟨76, 0, true⟩ 0 (loopOf Try.f76 0) (encSt S76_0 ((v2, v3, n10, ()), ())))
    else
    some (.exit 0, encSt S76_0_e0 ((v3, ()), ())) := by kernel_rfl

theorem fn76 (n : Nat) (n1 : Int) : (lvl Try.prog HH (n + 1)).2 76 [.s (.one (.v (.int .i64 n1)))] [] =
    bif decide (n1 ≤ 0) then (
      some (.s (.one (.v (.int .i64 0))), []))
    else
    ((lvl Try.prog HH (n + 0)).1 ⟨76, 0, true⟩ 0 (loopOf Try.f76 0) (encSt S76_0 ((n1, 0, 0, ()), ()))).bind fun p11 =>
    bif sameEx (.exit 0) p11.1 then (decSt S76_0_e0 p11.2 fun x12 =>
      some (.s (.one (.v (.int .i64 x12.1.1))), []))
    else
    none := by kernel_rfl

end Go.Proofs.Ytcldcnolhmmegaa.Am
