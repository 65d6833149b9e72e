/- PRINTED by amprint.py: what the abstract machine answers, function by function. -/
import Derived.Test.YtanjfmogmlgphaaH
import Derived.KernelRfl
set_option linter.unusedVariables false
set_option maxRecDepth 100000
namespace Go.Proofs.Ytanjfmogmlgphaa.Am
open Go Go.Proofs

/-! armplan/support.Least -/
theorem fn45 (n : Nat) (n1 : Int) (n2 : Int) (n3 : Int) (l4 : List (List D1)) : (lvl Try.prog HH (n + 1)).2 45 [.s (.agg true [.v (.int .i64 n1), .v (.int .i64 n2), .v (.int .i64 n3)]), .s (.one (.fr 6 l4))] [] =
    callT (lvl Try.prog HH (n + 0)).2 43 [.s (.agg true [.v (.int .i64 n1), .v (.int .i64 n2), .v (.int .i64 n3)])] [] outs43 mouts43 fun y5 m6 =>
    bif !y5.1 then (
      some (.tup [.one (.v (.int .i64 0)), .one (.v (.int .i64 0)), .one (.v (.bool false))], []))
    else
    callT (lvl Try.prog HH (n + 0)).2 55 [.s (.one (.fr 6 l4))] [] outs55 mouts55 fun y7 m8 =>
    bif !y7.1 then (
      some (.tup [.one (.v (.int .i64 0)), .one (.v (.int .i64 0)), .one (.v (.bool false))], []))
    else
    callT (lvl Try.prog HH (n + 0)).2 59 [.s (.agg false [.clo 56 [.ptr 0 0 0], .v (.func (.func 58) #[] #[])]), .s (.one (.fr 6 l4))] [.own 3 true [[.v (.int .i64 n1), .v (.int .i64 n2), .v (.int .i64 n3)]]] outs59 mouts59 fun y9 m10 =>
    some (.tup [.one (.v (.int .i64 y9.1)), .one (.v (.int .i64 y9.2.1)), .one (.v (.bool true))], []) := by kernel_rfl

/-! armplan/support.Greatest$1 -/
theorem fn60s0 (n : Nat) (v1 : Int) (v2 : Int) (v3 : Int) (v4 : Int) (v5 : Int) (v6 : Int) (c7 : Int) (c8 : Int) (c9 : Int) : (lvl Try.prog HH (n + 1)).2 60 [.s (.agg true [.v (.int .i64 v1), .v (.int .i64 v2), .v (.int .i64 v3), .v (.int .i64 v4), .v (.int .i64 v5), .v (.int .i64 v6)]), .s (.one (.ptr 0 0 0))] [.own 3 true [[.v (.int .i64 c7), .v (.int .i64 c8), .v (.int .i64 c9)]]] =
    callT (lvl Try.prog HH (n + 0)).2 57 [.s (.agg true [.v (.int .i64 c7), .v (.int .i64 c8), .v (.int .i64 c9)]), .s (.agg true [.v (.int .i64 v1), .v (.int .i64 v2), .v (.int .i64 v3), .v (.int .i64 v4), .v (.int .i64 v5), .v (.int .i64 v6)])] [] outs57 mouts57 fun y10 m11 =>
    some (.s (.one (.v (.int .i64 y10.2.1))), [.own 3 true [[.v (.int .i64 c7), .v (.int .i64 c8), .v (.int .i64 c9)]]]) := by kernel_rfl

/-! armplan/support.Greatest$2 -/
theorem fn61 (n : Nat) (x1 : Int) (y2 : Int) : (lvl Try.prog HH (n + 1)).2 61 [.s (.one (.v (.int .i64 x1))), .s (.one (.v (.int .i64 y2)))] [] =
    some (.s (.one (.v (.bool (decide (x1 > y2))))), []) := by kernel_rfl

/-! (armplan/support.search).first -/
theorem loop59s1_0 (n : Nat) (v9 : Int) (v10 : Int) (v11 : List (List D1)) (v12 : Int) (v13 : Int) (c14 : Int) (c15 : Int) (c16 : Int) : (lvl Try.prog HH (n + 1)).1 ⟨59, 1, true⟩ 0 (loopOf Try.f59 0) (encSt S59s1_0 (((), v9, v10, v11, v12, v13, ()), ((c14, c15, c16, ()), ((.clo 60 [.ptr 0 0 0]), (.v (.func (.func 61) #[] #[])), ()), ()))) =
    bif decide (v13 < v12) then (
      bif decide (0 ≤ v13) then (
        (nth v11 v13.toNat).bind fun cs17 =>
        bif Nat.beq ((cs17.drop 0).take 6).length 6 then (
          decCts [.int .i64, .int .i64, .int .i64, .int .i64, .int .i64, .int .i64] ((cs17.drop 0).take 6) fun c18 =>
          callT (lvl Try.prog HH (n + 0)).2 60 [.s (.agg true [.v (.int .i64 c18.1), .v (.int .i64 c18.2.1), .v (.int .i64 c18.2.2.1), .v (.int .i64 c18.2.2.2.1), .v (.int .i64 c18.2.2.2.2.1), .v (.int .i64 c18.2.2.2.2.2.1)]), .s (.one (.ptr 0 0 0))] [.own 3 true [[.v (.int .i64 c14), .v (.int .i64 c15), .v (.int .i64 c16)]]] outs60 mouts60 fun y19 m20 =>
          callT (lvl Try.prog HH (n + 0)).2 61 [.s (.one (.v (.int .i64 y19.1))), .s (.one (.v (.int .i64 v9)))] [] outs61 mouts61 fun y21 m22 =>
          bif y21.1 then (
            letIn (IntKind.wrap .i64 (v13 + 1) : Int) fun n23 =>
            (lvl Try.prog HH (n + 0)).1 ⟨59, 1, true⟩ 0 (loopOf Try.f59 0) (encSt S59s1_0 (((), y19.1, v13, v11, v12, n23, ()), ((c14, c15, c16, ()), ((.clo 60 [.ptr 0 0 0]), (.v (.func (.func 61) #[] #[])), ()), ()))))
          else
          letIn (IntKind.wrap .i64 (v13 + 1) : Int) fun n24 =>
          (lvl Try.prog HH (n + 0)).1 ⟨59, 1, true⟩ 0 (loopOf Try.f59 0) (encSt S59s1_0 (((), v9, v10, v11, v12, n24, ()), ((c14, c15, c16, ()), ((.clo 60 [.ptr 0 0 0]), (.v (.func (.func 61) #[] #[])), ()), ()))))
        else
        none)
      else
      none)
    else
    some (.exit 0, encSt S59s1_0_e0 ((v9, v10, ()), ((c14, c15, c16, ()), ()))) := by kernel_rfl

theorem fn59s1 (n : Nat) (l1 : List (List D1)) (c2 : Int) (c3 : Int) (c4 : Int) : (lvl Try.prog HH (n + 1)).2 59 [.s (.agg false [.clo 60 [.ptr 0 0 0], .v (.func (.func 61) #[] #[])]), .s (.one (.fr 6 l1))] [.own 3 true [[.v (.int .i64 c2), .v (.int .i64 c3), .v (.int .i64 c4)]]] =
    (nth l1 0).bind fun cs5 =>
    bif Nat.beq ((cs5.drop 0).take 6).length 6 then (
      decCts [.int .i64, .int .i64, .int .i64, .int .i64, .int .i64, .int .i64] ((cs5.drop 0).take 6) fun c6 =>
      callT (lvl Try.prog HH (n + 0)).2 60 [.s (.agg true [.v (.int .i64 c6.1), .v (.int .i64 c6.2.1), .v (.int .i64 c6.2.2.1), .v (.int .i64 c6.2.2.2.1), .v (.int .i64 c6.2.2.2.2.1), .v (.int .i64 c6.2.2.2.2.2.1)]), .s (.one (.ptr 0 0 0))] [.own 3 true [[.v (.int .i64 c2), .v (.int .i64 c3), .v (.int .i64 c4)]]] outs60 mouts60 fun y7 m8 =>
      ((lvl Try.prog HH (n + 0)).1 ⟨59, 1, true⟩ 0 (loopOf Try.f59 0) (encSt S59s1_0 (((), y7.1, 0, l1, (((l1.length : Nat) : Int)), 0, ()), ((c2, c3, c4, ()), ((.clo 60 [.ptr 0 0 0]), (.v (.func (.func 61) #[] #[])), ()), ())))).bind fun p25 =>
      bif sameEx (.exit 0) p25.1 then (decSt S59s1_0_e0 p25.2 fun x26 =>
        some (.tup [.one (.v (.int .i64 x26.1.1)), .one (.v (.int .i64 x26.1.2.1))], [.own 3 true [[.v (.int .i64 x26.2.1.1), .v (.int .i64 x26.2.1.2.1), .v (.int .i64 x26.2.1.2.2.1)]]]))
      else
      none)
    else
    none := by kernel_rfl

/-! armplan/support.Greatest -/
theorem fn46 (n : Nat) (n1 : Int) (n2 : Int) (n3 : Int) (l4 : List (List D1)) : (lvl Try.prog HH (n + 1)).2 46 [.s (.agg true [.v (.int .i64 n1), .v (.int .i64 n2), .v (.int .i64 n3)]), .s (.one (.fr 6 l4))] [] =
    callT (lvl Try.prog HH (n + 0)).2 43 [.s (.agg true [.v (.int .i64 n1), .v (.int .i64 n2), .v (.int .i64 n3)])] [] outs43 mouts43 fun y5 m6 =>
    bif !y5.1 then (
      some (.tup [.one (.v (.int .i64 0)), .one (.v (.int .i64 0)), .one (.v (.bool false))], []))
    else
    callT (lvl Try.prog HH (n + 0)).2 55 [.s (.one (.fr 6 l4))] [] outs55 mouts55 fun y7 m8 =>
    bif !y7.1 then (
      some (.tup [.one (.v (.int .i64 0)), .one (.v (.int .i64 0)), .one (.v (.bool false))], []))
    else
    callT (lvl Try.prog HH (n + 0)).2 59 [.s (.agg false [.clo 60 [.ptr 0 0 0], .v (.func (.func 61) #[] #[])]), .s (.one (.fr 6 l4))] [.own 3 true [[.v (.int .i64 n1), .v (.int .i64 n2), .v (.int .i64 n3)]]] outs59 mouts59 fun y9 m10 =>
    some (.tup [.one (.v (.int .i64 y9.1)), .one (.v (.int .i64 y9.2.1)), .one (.v (.bool true))], []) := by kernel_rfl

/-! armplan/fixed.Root -/
theorem loop65_0 (n : Nat) (v2 : Int) (v3 : Int) (v4 : Int) : (lvl Try.prog HH (n + 1)).1 ⟨65, 0, true⟩ 0 (loopOf Try.f65 0) (encSt S65_0 ((v2, v3, v4, ()), ())) =
    bif decide (v4 < 32) then (
      letIn (IntKind.wrap .i64 (31 - v4) : Int) fun n5 =>
      bif decide (n5 < 0) then (
        none)
      else
      letIn (IntKind.wrap .i64 (1 * (2 ^ min n5.toNat 64)) : Int) fun n6 =>
      letIn (IntKind.wrap .i64 (v3 + n6) : Int) fun n7 =>
      bif n7 == 0 then (
        none)
      else
      letIn (IntKind.wrap .i64 (Int.tdiv v2 n7) : Int) fun n8 =>
      bif decide (n7 ≤ n8) then (
        letIn (IntKind.wrap .i64 (v4 + 1) : Int) fun n9 =>
        (lvl Try.prog HH (n + 0)).1 ⟨65, 0, true⟩ 0 (loopOf Try.f65 0) (encSt S65_0 ((v2, n7, n9, ()), ())))
      else
      letIn (IntKind.wrap .i64 (v4 + 1) : Int) fun n10 =>
      (lvl Try.prog HH (n + 0)).1 ⟨65, 0, true⟩ 0 (loopOf Try.f65 0) (encSt S65_0 ((v2, v3, n10, ()), ())))
    else
    some (.exit 0, encSt S65_0_e0 ((v3, ()), ())) := by kernel_rfl

theorem fn65 (n : Nat) (n1 : Int) : (lvl Try.prog HH (n + 1)).2 65 [.s (.one (.v (.int .i64 n1)))] [] =
    bif decide (n1 ≤ 0) then (
      some (.s (.one (.v (.int .i64 0))), []))
    else
    ((lvl Try.prog HH (n + 0)).1 ⟨65, 0, true⟩ 0 (loopOf Try.f65 0) (encSt S65_0 ((n1, 0, 0, ()), ()))).bind fun p11 =>
    bif sameEx (.exit 0) p11.1 then (decSt S65_0_e0 p11.2 fun x12 =>
      some (.s (.one (.v (.int .i64 x12.1.1))), []))
    else
    none := by kernel_rfl

/-! armplan/fixed.RootUp -/
theorem fn62 (n : Nat) (n1 : Int) : (lvl Try.prog HH (n + 1)).2 62 [.s (.one (.v (.int .i64 n1)))] [] =
    callT (lvl Try.prog HH (n + 0)).2 65 [.s (.one (.v (.int .i64 n1)))] [] outs65 mouts65 fun y2 m3 =>
    letIn (IntKind.wrap .i64 (y2.1 * y2.1) : Int) fun n4 =>
    bif decide (n4 < n1) then (
      letIn (IntKind.wrap .i64 (y2.1 + 1) : Int) fun n5 =>
      some (.s (.one (.v (.int .i64 n5))), []))
    else
    some (.s (.one (.v (.int .i64 y2.1))), []) := by kernel_rfl

end Go.Proofs.Ytanjfmogmlgphaa.Am
