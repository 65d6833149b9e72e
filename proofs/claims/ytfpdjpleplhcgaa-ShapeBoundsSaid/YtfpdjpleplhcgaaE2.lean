/- PRINTED by amprint.py: what the abstract machine answers, function by function. -/
import Derived.Test.YtfpdjpleplhcgaaH
import Derived.KernelRfl
set_option linter.unusedVariables false
set_option maxRecDepth 100000
namespace Go.Proofs.Ytfpdjpleplhcgaa.Am
open Go Go.Proofs

/-! armplan/armplanref1.Valid -/
theorem fn103 (n : Nat) (a1 : Int) (a2 : Int) : (lvl Try.prog HH (n + 1)).2 103 [.s (.agg true [.v (.int .i64 a1), .v (.int .i64 a2)])] [] =
    bif decide ((-2147483648) ≤ a1) then (
      bif decide (a1 ≤ a2) then (
        some (.s (.one (.v (.bool (decide (a2 ≤ 2147483648))))), []))
      else
      some (.s (.one (.v (.bool false))), []))
    else
    some (.s (.one (.v (.bool false))), []) := by kernel_rfl

/-! armplan/armplanref1.Hull -/
theorem fn122 (n : Nat) (a1 : Int) (a2 : Int) (b3 : Int) (b4 : Int) : (lvl Try.prog HH (n + 1)).2 122 [.s (.agg true [.v (.int .i64 a1), .v (.int .i64 a2)]), .s (.agg true [.v (.int .i64 b3), .v (.int .i64 b4)])] [] =
    callT (lvl Try.prog HH (n + 0)).2 103 [.s (.agg true [.v (.int .i64 a1), .v (.int .i64 a2)])] [] outs103 mouts103 fun y5 m6 =>
    bif !y5.1 then (
      some (.s (.agg true [.v (.int .i64 0), .v (.int .i64 0)]), []))
    else
    callT (lvl Try.prog HH (n + 0)).2 103 [.s (.agg true [.v (.int .i64 b3), .v (.int .i64 b4)])] [] outs103 mouts103 fun y7 m8 =>
    bif !y7.1 then (
      some (.s (.agg true [.v (.int .i64 0), .v (.int .i64 0)]), []))
    else
    letIn (if b3 < a1 then b3 else a1 : Int) fun n9 =>
    letIn (if b4 > a2 then b4 else a2 : Int) fun n10 =>
    some (.s (.agg true [.v (.int .i64 n9), .v (.int .i64 n10)]), []) := by kernel_rfl

/-! armplan/armplanref10.Bound -/
theorem loop131_0 (n : Nat) (v7 : List (List D1)) (v8 : Int) (v9 : Int) (c10 : Int) (c11 : Int) (c12 : Int) (c13 : Int) (c14 : Int) (c15 : Int) (c16 : Int) (c17 : Int) (c18 : Int) (c19 : Int) (c20 : Int) (c21 : Int) : (lvl Try.prog HH (n + 5)).1 ⟨131, 0, true⟩ 0 (loopOf Try.f131 0) (encSt S131_0 ((v7, v8, (), (), v9, ()), ((c10, c11, c12, c13, c14, c15, ()), (c16, c17, c18, c19, c20, c21, ()), ()))) =
    bif decide (v9 < (((v7.length : Nat) : Int))) then (
      Option.bind (
        bif decide (0 ≤ v9) then (
          (nth v7 v9.toNat).bind fun cs22 =>
          bif Nat.beq (((cs22.drop 0).drop 0).take 2).length 2 then (
            decCts [.int .i64, .int .i64] (((cs22.drop 0).drop 0).take 2) fun c23 =>
            callT (lvl Try.prog HH (n + 3)).2 122 [.s (.agg true [.v (.int .i64 c16), .v (.int .i64 c17)]), .s (.agg true [.v (.int .i64 c23.1), .v (.int .i64 c23.2.1)])] [] outs122 mouts122 fun y24 m25 =>
            bif decide (0 ≤ v9) then (
              (nth v7 v9.toNat).bind fun cs26 =>
              bif Nat.beq (((cs26.drop 2).drop 0).take 2).length 2 then (
                decCts [.int .i64, .int .i64] (((cs26.drop 2).drop 0).take 2) fun c27 =>
                callT (lvl Try.prog HH (n + 2)).2 122 [.s (.agg true [.v (.int .i64 c18), .v (.int .i64 c19)]), .s (.agg true [.v (.int .i64 c27.1), .v (.int .i64 c27.2.1)])] [] outs122 mouts122 fun y28 m29 =>
                bif decide (0 ≤ v9) then (
                  (nth v7 v9.toNat).bind fun cs30 =>
                  bif Nat.beq (((cs30.drop 4).drop 0).take 2).length 2 then (
                    decCts [.int .i64, .int .i64] (((cs30.drop 4).drop 0).take 2) fun c31 =>
                    callT (lvl Try.prog HH (n + 1)).2 122 [.s (.agg true [.v (.int .i64 c20), .v (.int .i64 c21)]), .s (.agg true [.v (.int .i64 c31.1), .v (.int .i64 c31.2.1)])] [] outs122 mouts122 fun y32 m33 =>
                    some (.exit 2, encSt S131_2_e2 ((v7, v8, (), (), v9, ()), ((c10, c11, c12, c13, c14, c15, ()), (y24.1.1, y24.1.2.1, y28.1.1, y28.1.2.1, y32.1.1, y32.1.2.1, ()), ()))))
                  else
                  none)
                else
                none)
              else
              none)
            else
            none)
          else
          none)
        else
        none) fun p34 =>
      bif sameEx (.exit 2) p34.1 then (decSt S131_2_e2 p34.2 fun x35 =>
        letIn (IntKind.wrap .i64 (x35.1.2.2.2.2.1 + 1) : Int) fun n36 =>
        (lvl Try.prog HH (n + 4)).1 ⟨131, 0, true⟩ 0 (loopOf Try.f131 0) (encSt S131_0 ((x35.1.1, x35.1.2.1, (), (), n36, ()), ((x35.2.1.1, x35.2.1.2.1, x35.2.1.2.2.1, x35.2.1.2.2.2.1, x35.2.1.2.2.2.2.1, x35.2.1.2.2.2.2.2.1, ()), (x35.2.2.1.1, x35.2.2.1.2.1, x35.2.2.1.2.2.1, x35.2.2.1.2.2.2.1, x35.2.2.1.2.2.2.2.1, x35.2.2.1.2.2.2.2.2.1, ()), ()))))
      else
      none)
    else
    some (.exit 0, encSt S131_0_e0 ((v8, (), (), ()), ((c10, c11, c12, c13, c14, c15, ()), (c16, c17, c18, c19, c20, c21, ()), ()))) := by kernel_rfl

theorem fn131 (n : Nat) (l1 : List (List D1)) (radius2 : Int) : (lvl Try.prog HH (n + 5)).2 131 [.s (.one (.fr 6 l1)), .s (.one (.v (.int .i64 radius2)))] [] =
    callT (lvl Try.prog HH (n + 4)).2 130 [.s (.one (.fr 6 l1))] [] outs130 mouts130 fun y3 m4 =>
    bif !y3.1 then (
      some (.s (.agg true [.v (.int .i64 0), .v (.int .i64 0), .v (.int .i64 0), .v (.int .i64 0), .v (.int .i64 0), .v (.int .i64 0)]), []))
    else
    bif decide (radius2 < 0) then (
      some (.s (.agg true [.v (.int .i64 0), .v (.int .i64 0), .v (.int .i64 0), .v (.int .i64 0), .v (.int .i64 0), .v (.int .i64 0)]), []))
    else
    bif decide (radius2 > 1048576) then (
      some (.s (.agg true [.v (.int .i64 0), .v (.int .i64 0), .v (.int .i64 0), .v (.int .i64 0), .v (.int .i64 0), .v (.int .i64 0)]), []))
    else
    (nth l1 0).bind fun cs5 =>
    bif Nat.beq ((cs5.drop 0).take 6).length 6 then (
      decCts [.int .i64, .int .i64, .int .i64, .int .i64, .int .i64, .int .i64] ((cs5.drop 0).take 6) fun c6 =>
      ((lvl Try.prog HH (n + 4)).1 ⟨131, 0, true⟩ 0 (loopOf Try.f131 0) (encSt S131_0 ((l1, radius2, (), (), 1, ()), ((0, 0, 0, 0, 0, 0, ()), (c6.1, c6.2.1, c6.2.2.1, c6.2.2.2.1, c6.2.2.2.2.1, c6.2.2.2.2.2.1, ()), ())))).bind fun p37 =>
      bif sameEx (.exit 0) p37.1 then (decSt S131_0_e0 p37.2 fun x38 =>
        letIn (IntKind.wrap .i64 (x38.2.2.1.1 - x38.1.1) : Int) fun n39 =>
        letIn (IntKind.wrap .i64 (x38.2.2.1.2.1 + x38.1.1) : Int) fun n40 =>
        letIn (IntKind.wrap .i64 (x38.2.2.1.2.2.1 - x38.1.1) : Int) fun n41 =>
        letIn (IntKind.wrap .i64 (x38.2.2.1.2.2.2.1 + x38.1.1) : Int) fun n42 =>
        letIn (IntKind.wrap .i64 (x38.2.2.1.2.2.2.2.1 - x38.1.1) : Int) fun n43 =>
        letIn (IntKind.wrap .i64 (x38.2.2.1.2.2.2.2.2.1 + x38.1.1) : Int) fun n44 =>
        some (.s (.agg true [.v (.int .i64 n39), .v (.int .i64 n40), .v (.int .i64 n41), .v (.int .i64 n42), .v (.int .i64 n43), .v (.int .i64 n44)]), []))
      else
      none)
    else
    none := by kernel_rfl

/-! armplan/interval.Valid -/
theorem fn48 (n : Nat) (a1 : Int) (a2 : Int) : (lvl Try.prog HH (n + 1)).2 48 [.s (.agg true [.v (.int .i64 a1), .v (.int .i64 a2)])] [] =
    bif decide (a1 ≥ (-2147483648)) then (
      bif decide (a1 ≤ a2) then (
        some (.s (.one (.v (.bool (decide (a2 ≤ 2147483648))))), []))
      else
      some (.s (.one (.v (.bool false))), []))
    else
    some (.s (.one (.v (.bool false))), []) := by kernel_rfl

end Go.Proofs.Ytfpdjpleplhcgaa.Am
