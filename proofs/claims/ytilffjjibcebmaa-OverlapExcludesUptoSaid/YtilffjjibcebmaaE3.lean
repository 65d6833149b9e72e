/- PRINTED by amprint.py: what the abstract machine answers, function by function. -/
import Derived.Test.YtilffjjibcebmaaH
import Derived.KernelRfl
set_option linter.unusedVariables false
set_option maxRecDepth 100000
namespace Go.Proofs.Ytilffjjibcebmaa.Am
open Go Go.Proofs

/-! armplan/support.Least -/
theorem fn49 (n : Nat) (n1 : Int) (n2 : Int) (n3 : Int) (l4 : List (List D1)) : (lvl Try.prog HH (n + 1)).2 49 [.s (.agg true [.v (.int .i64 n1), .v (.int .i64 n2), .v (.int .i64 n3)]), .s (.one (.fr 6 l4))] [] =
    callT (lvl Try.prog HH (n + 0)).2 47 [.s (.agg true [.v (.int .i64 n1), .v (.int .i64 n2), .v (.int .i64 n3)])] [] outs47 mouts47 fun y5 m6 =>
    bif !y5.1 then (
      some (.tup [.one (.v (.int .i64 0)), .one (.v (.int .i64 0)), .one (.v (.bool false))], []))
    else
    callT (lvl Try.prog HH (n + 0)).2 41 [.s (.one (.fr 6 l4))] [] outs41 mouts41 fun y7 m8 =>
    bif !y7.1 then (
      some (.tup [.one (.v (.int .i64 0)), .one (.v (.int .i64 0)), .one (.v (.bool false))], []))
    else
    callT (lvl Try.prog HH (n + 0)).2 58 [.s (.agg false [.clo 55 [.ptr 0 0 0], .v (.func (.func 57) #[] #[])]), .s (.one (.fr 6 l4))] [.own 3 true [[.v (.int .i64 n1), .v (.int .i64 n2), .v (.int .i64 n3)]]] outs58 mouts58 fun y9 m10 =>
    some (.tup [.one (.v (.int .i64 y9.1)), .one (.v (.int .i64 y9.2.1)), .one (.v (.bool true))], []) := by kernel_rfl

/-! armplan/support.Greatest$1 -/
theorem fn59s0 (n : Nat) (v1 : Int) (v2 : Int) (v3 : Int) (v4 : Int) (v5 : Int) (v6 : Int) (c7 : Int) (c8 : Int) (c9 : Int) : (lvl Try.prog HH (n + 1)).2 59 [.s (.agg true [.v (.int .i64 v1), .v (.int .i64 v2), .v (.int .i64 v3), .v (.int .i64 v4), .v (.int .i64 v5), .v (.int .i64 v6)]), .s (.one (.ptr 0 0 0))] [.own 3 true [[.v (.int .i64 c7), .v (.int .i64 c8), .v (.int .i64 c9)]]] =
    callT (lvl Try.prog HH (n + 0)).2 56 [.s (.agg true [.v (.int .i64 c7), .v (.int .i64 c8), .v (.int .i64 c9)]), .s (.agg true [.v (.int .i64 v1), .v (.int .i64 v2), .v (.int .i64 v3), .v (.int .i64 v4), .v (.int .i64 v5), .v (.int .i64 v6)])] [] outs56 mouts56 fun y10 m11 =>
    some (.s (.one (.v (.int .i64 y10.2.1))), [.own 3 true [[.v (.int .i64 c7), .v (.int .i64 c8), .v (.int .i64 c9)]]]) := by kernel_rfl

/-! armplan/support.Greatest$2 -/
theorem fn60 (n : Nat) (x1 : Int) (y2 : Int) : (lvl Try.prog HH (n + 1)).2 60 [.s (.one (.v (.int .i64 x1))), .s (.one (.v (.int .i64 y2)))] [] =
    some (.s (.one (.v (.bool (decide (x1 > y2))))), []) := by kernel_rfl

/-! (armplan/support.search).first -/
theorem loop58s1_0 (n : Nat) (v9 : Int) (v10 : Int) (v11 : List (List D1)) (v12 : Int) (v13 : Int) (c14 : Int) (c15 : Int) (c16 : Int) : (lvl Try.prog HH (n + 1)).1 ⟨58, 1, true⟩ 0 (loopOf Try.f58 0) (encSt S58s1_0 (((), v9, v10, v11, v12, v13, ()), ((c14, c15, c16, ()), ((.clo 59 [.ptr 0 0 0]), (.v (.func (.func 60) #[] #[])), ()), ()))) =
    bif decide (v13 < v12) then (
      bif decide (0 ≤ v13) then (
        (nth v11 v13.toNat).bind fun cs17 =>
        bif Nat.beq ((cs17.drop 0).take 6).length 6 then (
          decCts [.int .i64, .int .i64, .int .i64, .int .i64, .int .i64, .int .i64] ((cs17.drop 0).take 6) fun c18 =>
          callT (lvl Try.prog HH (n + 0)).2 59 [.s (.agg true [.v (.int .i64 c18.1), .v (.int .i64 c18.2.1), .v (.int .i64 c18.2.2.1), .v (.int .i64 c18.2.2.2.1), .v (.int .i64 c18.2.2.2.2.1), .v (.int .i64 c18.2.2.2.2.2.1)]), .s (.one (.ptr 0 0 0))] [.own 3 true [[.v (.int .i64 c14), .v (.int .i64 c15), .v (.int .i64 c16)]]] outs59 mouts59 fun y19 m20 =>
          callT (lvl Try.prog HH (n + 0)).2 60 [.s (.one (.v (.int .i64 y19.1))), .s (.one (.v (.int .i64 v9)))] [] outs60 mouts60 fun y21 m22 =>
          bif y21.1 then (
            letIn (IntKind.wrap .i64 (v13 + 1) : Int) fun n23 =>
            (lvl Try.prog HH (n + 0)).1 ⟨58, 1, true⟩ 0 (loopOf Try.f58 0) (encSt S58s1_0 (((), y19.1, v13, v11, v12, n23, ()), ((c14, c15, c16, ()), ((.clo 59 [.ptr 0 0 0]), (.v (.func (.func 60) #[] #[])), ()), ()))))
          else
          letIn (IntKind.wrap .i64 (v13 + 1) : Int) fun n24 =>
          (lvl Try.prog HH (n + 0)).1 ⟨58, 1, true⟩ 0 (loopOf Try.f58 0) (encSt S58s1_0 (((), v9, v10, v11, v12, n24, ()), ((c14, c15, c16, ()), ((.clo 59 [.ptr 0 0 0]), (.v (.func (.func 60) #[] #[])), ()), ()))))
        else
        none)
      else
      none)
    else
    some (.exit 0, encSt S58s1_0_e0 ((v9, v10, ()), ((c14, c15, c16, ()), ()))) := by kernel_rfl

theorem fn58s1 (n : Nat) (l1 : List (List D1)) (c2 : Int) (c3 : Int) (c4 : Int) : (lvl Try.prog HH (n + 1)).2 58 [.s (.agg false [.clo 59 [.ptr 0 0 0], .v (.func (.func 60) #[] #[])]), .s (.one (.fr 6 l1))] [.own 3 true [[.v (.int .i64 c2), .v (.int .i64 c3), .v (.int .i64 c4)]]] =
    (nth l1 0).bind fun cs5 =>
    bif Nat.beq ((cs5.drop 0).take 6).length 6 then (
      decCts [.int .i64, .int .i64, .int .i64, .int .i64, .int .i64, .int .i64] ((cs5.drop 0).take 6) fun c6 =>
      callT (lvl Try.prog HH (n + 0)).2 59 [.s (.agg true [.v (.int .i64 c6.1), .v (.int .i64 c6.2.1), .v (.int .i64 c6.2.2.1), .v (.int .i64 c6.2.2.2.1), .v (.int .i64 c6.2.2.2.2.1), .v (.int .i64 c6.2.2.2.2.2.1)]), .s (.one (.ptr 0 0 0))] [.own 3 true [[.v (.int .i64 c2), .v (.int .i64 c3), .v (.int .i64 c4)]]] outs59 mouts59 fun y7 m8 =>
      ((lvl Try.prog HH (n + 0)).1 ⟨58, 1, true⟩ 0 (loopOf Try.f58 0) (encSt S58s1_0 (((), y7.1, 0, l1, (((l1.length : Nat) : Int)), 0, ()), ((c2, c3, c4, ()), ((.clo 59 [.ptr 0 0 0]), (.v (.func (.func 60) #[] #[])), ()), ())))).bind fun p25 =>
      bif sameEx (.exit 0) p25.1 then (decSt S58s1_0_e0 p25.2 fun x26 =>
        some (.tup [.one (.v (.int .i64 x26.1.1)), .one (.v (.int .i64 x26.1.2.1))], [.own 3 true [[.v (.int .i64 x26.2.1.1), .v (.int .i64 x26.2.1.2.1), .v (.int .i64 x26.2.1.2.2.1)]]]))
      else
      none)
    else
    none := by kernel_rfl

/-! armplan/support.Greatest -/
theorem fn50 (n : Nat) (n1 : Int) (n2 : Int) (n3 : Int) (l4 : List (List D1)) : (lvl Try.prog HH (n + 1)).2 50 [.s (.agg true [.v (.int .i64 n1), .v (.int .i64 n2), .v (.int .i64 n3)]), .s (.one (.fr 6 l4))] [] =
    callT (lvl Try.prog HH (n + 0)).2 47 [.s (.agg true [.v (.int .i64 n1), .v (.int .i64 n2), .v (.int .i64 n3)])] [] outs47 mouts47 fun y5 m6 =>
    bif !y5.1 then (
      some (.tup [.one (.v (.int .i64 0)), .one (.v (.int .i64 0)), .one (.v (.bool false))], []))
    else
    callT (lvl Try.prog HH (n + 0)).2 41 [.s (.one (.fr 6 l4))] [] outs41 mouts41 fun y7 m8 =>
    bif !y7.1 then (
      some (.tup [.one (.v (.int .i64 0)), .one (.v (.int .i64 0)), .one (.v (.bool false))], []))
    else
    callT (lvl Try.prog HH (n + 0)).2 58 [.s (.agg false [.clo 59 [.ptr 0 0 0], .v (.func (.func 60) #[] #[])]), .s (.one (.fr 6 l4))] [.own 3 true [[.v (.int .i64 n1), .v (.int .i64 n2), .v (.int .i64 n3)]]] outs58 mouts58 fun y9 m10 =>
    some (.tup [.one (.v (.int .i64 y9.1)), .one (.v (.int .i64 y9.2.1)), .one (.v (.bool true))], []) := by kernel_rfl

/-! armplan/fixed.Root -/
theorem loop62_0 (n : Nat) (v2 : Int) (v3 : Int) (v4 : Int) : (lvl Try.prog HH (n + 1)).1 ⟨62, 0, true⟩ 0 (loopOf Try.f62 0) (encSt S62_0 ((v2, v3, v4, ()), ())) =
    bif decide (v4 < 32) then (
      letIn (IntKind.wrap .i64 (31 - v4) : Int) fun n5 =>
      bif decide (n5 < 0) then (
        none)
      else
      letIn (IntKind.wrap .i64 (1 * (2 ^ min n5.toNat 64)) : Int) fun n6 =>
      letIn (IntKind.wrap .i64 (v3 + n6) : Int) fun n7 =>
      bif n7 == 0 then (
        none)
      else
      letIn (IntKind.wrap .i64 (Int.tdiv v2 n7) : Int) fun n8 =>
      bif decide (n7 ≤ n8) then (
        letIn (IntKind.wrap .i64 (v4 + 1) : Int) fun n9 =>
        (lvl Try.prog HH (n + 0)).1 ⟨62, 0, true⟩ 0 (loopOf Try.f62 0) (encSt S62_0 ((v2, n7, n9, ()), ())))
      else
      letIn (IntKind.wrap .i64 (v4 + 1) : Int) fun n10 =>
      (lvl Try.prog HH (n + 0)).1 ⟨62, 0, true⟩ 0 (loopOf Try.f62 0) (encSt S62_0 ((v2, v3, n10, ()), ())))
    else
    some (.exit 0, encSt S62_0_e0 ((v3, ()), ())) := by kernel_rfl

theorem fn62 (n : Nat) (n1 : Int) : (lvl Try.prog HH (n + 1)).2 62 [.s (.one (.v (.int .i64 n1)))] [] =
    bif decide (n1 ≤ 0) then (
      some (.s (.one (.v (.int .i64 0))), []))
    else
    ((lvl Try.prog HH (n + 0)).1 ⟨62, 0, true⟩ 0 (loopOf Try.f62 0) (encSt S62_0 ((n1, 0, 0, ()), ()))).bind fun p11 =>
    bif sameEx (.exit 0) p11.1 then (decSt S62_0_e0 p11.2 fun x12 =>
      some (.s (.one (.v (.int .i64 x12.1.1))), []))
    else
    none := by kernel_rfl

/-! armplan/fixed.RootUp -/
theorem fn61 (n : Nat) (n1 : Int) : (lvl Try.prog HH (n + 1)).2 61 [.s (.one (.v (.int .i64 n1)))] [] =
    callT (lvl Try.prog HH (n + 0)).2 62 [.s (.one (.v (.int .i64 n1)))] [] outs62 mouts62 fun y2 m3 =>
    letIn (IntKind.wrap .i64 (y2.1 * y2.1) : Int) fun n4 =>
    bif decide (n4 < n1) then (
      letIn (IntKind.wrap .i64 (y2.1 + 1) : Int) fun n5 =>
      some (.s (.one (.v (.int .i64 n5))), []))
    else
    some (.s (.one (.v (.int .i64 y2.1))), []) := by kernel_rfl

/-! armplan/support.Norm -/
theorem fn51 (n : Nat) (n1 : Int) (n2 : Int) (n3 : Int) : (lvl Try.prog HH (n + 1)).2 51 [.s (.agg true [.v (.int .i64 n1), .v (.int .i64 n2), .v (.int .i64 n3)])] [] =
    callT (lvl Try.prog HH (n + 0)).2 47 [.s (.agg true [.v (.int .i64 n1), .v (.int .i64 n2), .v (.int .i64 n3)])] [] outs47 mouts47 fun y4 m5 =>
    bif !y4.1 then (
      some (.s (.one (.v (.int .i64 0))), []))
    else
    letIn (IntKind.wrap .i64 (n1 * n1) : Int) fun n6 =>
    letIn (IntKind.wrap .i64 (n2 * n2) : Int) fun n7 =>
    letIn (IntKind.wrap .i64 (n6 + n7) : Int) fun n8 =>
    letIn (IntKind.wrap .i64 (n3 * n3) : Int) fun n9 =>
    letIn (IntKind.wrap .i64 (n8 + n9) : Int) fun n10 =>
    callT (lvl Try.prog HH (n + 0)).2 61 [.s (.one (.v (.int .i64 n10)))] [] outs61 mouts61 fun y11 m12 =>
    some (.s (.one (.v (.int .i64 y11.1))), []) := by kernel_rfl

/-! (armplan/plane.sides).margin -/
theorem fn43_w (w : CallF → CallF) (v : LoopF → LoopF) (n : Nat) (s1 : List (List D1)) (s2 : Int) (s3 : List (List D1)) (s4 : Int) (n5 : Int) (n6 : Int) (n7 : Int) : (lvlW w v symL Try.prog HH (n + 1)).2 43 [.s (.agg true [.fr 6 s1, .v (.int .i64 s2), .fr 6 s3, .v (.int .i64 s4)]), .s (.agg true [.v (.int .i64 n5), .v (.int .i64 n6), .v (.int .i64 n7)])] [] =
    callT (w (lvlW w v symL Try.prog HH (n + 0)).2) 47 [.s (.agg true [.v (.int .i64 n5), .v (.int .i64 n6), .v (.int .i64 n7)])] [] outs47 mouts47 fun y8 m9 =>
    bif !y8.1 then (
      some (.tup [.one (.v (.int .i64 0)), .one (.v (.bool false))], []))
    else
    callT (w (lvlW w v symL Try.prog HH (n + 0)).2) 48 [.s (.agg true [.fr 6 s1, .v (.int .i64 s2)])] [] outs48 mouts48 fun y10 m11 =>
    bif !y10.1 then (
      some (.tup [.one (.v (.int .i64 0)), .one (.v (.bool false))], []))
    else
    callT (w (lvlW w v symL Try.prog HH (n + 0)).2) 48 [.s (.agg true [.fr 6 s3, .v (.int .i64 s4)])] [] outs48 mouts48 fun y12 m13 =>
    bif !y12.1 then (
      some (.tup [.one (.v (.int .i64 0)), .one (.v (.bool false))], []))
    else
    callT (w (lvlW w v symL Try.prog HH (n + 0)).2) 49 [.s (.agg true [.v (.int .i64 n5), .v (.int .i64 n6), .v (.int .i64 n7)]), .s (.one (.fr 6 s1))] [] outs49 mouts49 fun y14 m15 =>
    callT (w (lvlW w v symL Try.prog HH (n + 0)).2) 50 [.s (.agg true [.v (.int .i64 n5), .v (.int .i64 n6), .v (.int .i64 n7)]), .s (.one (.fr 6 s3))] [] outs50 mouts50 fun y16 m17 =>
    letIn (IntKind.wrap .i64 (y14.1 - y16.1) : Int) fun n18 =>
    callT (w (lvlW w v symL Try.prog HH (n + 0)).2) 51 [.s (.agg true [.v (.int .i64 n5), .v (.int .i64 n6), .v (.int .i64 n7)])] [] outs51 mouts51 fun y19 m20 =>
    letIn (IntKind.wrap .i64 (s2 + s4) : Int) fun n21 =>
    letIn (IntKind.wrap .i64 (y19.1 * n21) : Int) fun n22 =>
    letIn (IntKind.wrap .i64 (n18 - n22) : Int) fun n23 =>
    some (.tup [.one (.v (.int .i64 n23)), .one (.v (.bool true))], []) := by kernel_rfl
theorem fn43 (n : Nat) (s1 : List (List D1)) (s2 : Int) (s3 : List (List D1)) (s4 : Int) (n5 : Int) (n6 : Int) (n7 : Int) : (lvl Try.prog HH (n + 1)).2 43 [.s (.agg true [.fr 6 s1, .v (.int .i64 s2), .fr 6 s3, .v (.int .i64 s4)]), .s (.agg true [.v (.int .i64 n5), .v (.int .i64 n6), .v (.int .i64 n7)])] [] =
    callT (lvl Try.prog HH (n + 0)).2 47 [.s (.agg true [.v (.int .i64 n5), .v (.int .i64 n6), .v (.int .i64 n7)])] [] outs47 mouts47 fun y8 m9 =>
    bif !y8.1 then (
      some (.tup [.one (.v (.int .i64 0)), .one (.v (.bool false))], []))
    else
    callT (lvl Try.prog HH (n + 0)).2 48 [.s (.agg true [.fr 6 s1, .v (.int .i64 s2)])] [] outs48 mouts48 fun y10 m11 =>
    bif !y10.1 then (
      some (.tup [.one (.v (.int .i64 0)), .one (.v (.bool false))], []))
    else
    callT (lvl Try.prog HH (n + 0)).2 48 [.s (.agg true [.fr 6 s3, .v (.int .i64 s4)])] [] outs48 mouts48 fun y12 m13 =>
    bif !y12.1 then (
      some (.tup [.one (.v (.int .i64 0)), .one (.v (.bool false))], []))
    else
    callT (lvl Try.prog HH (n + 0)).2 49 [.s (.agg true [.v (.int .i64 n5), .v (.int .i64 n6), .v (.int .i64 n7)]), .s (.one (.fr 6 s1))] [] outs49 mouts49 fun y14 m15 =>
    callT (lvl Try.prog HH (n + 0)).2 50 [.s (.agg true [.v (.int .i64 n5), .v (.int .i64 n6), .v (.int .i64 n7)]), .s (.one (.fr 6 s3))] [] outs50 mouts50 fun y16 m17 =>
    letIn (IntKind.wrap .i64 (y14.1 - y16.1) : Int) fun n18 =>
    callT (lvl Try.prog HH (n + 0)).2 51 [.s (.agg true [.v (.int .i64 n5), .v (.int .i64 n6), .v (.int .i64 n7)])] [] outs51 mouts51 fun y19 m20 =>
    letIn (IntKind.wrap .i64 (s2 + s4) : Int) fun n21 =>
    letIn (IntKind.wrap .i64 (y19.1 * n21) : Int) fun n22 =>
    letIn (IntKind.wrap .i64 (n18 - n22) : Int) fun n23 =>
    some (.tup [.one (.v (.int .i64 n23)), .one (.v (.bool true))], []) := by
  have h := fn43_w (fun x => x) (fun x => x) n s1 s2 s3 s4 n5 n6 n7
  rw [lvlW_id] at h
  exact h

/-! armplan/plane.Margin -/
theorem fn36 (n : Nat) (n1 : Int) (n2 : Int) (n3 : Int) (a4 : List (List D1)) (ra5 : Int) (b6 : List (List D1)) (rb7 : Int) : (lvl Try.prog HH (n + 1)).2 36 [.s (.agg true [.v (.int .i64 n1), .v (.int .i64 n2), .v (.int .i64 n3)]), .s (.one (.fr 6 a4)), .s (.one (.v (.int .i64 ra5))), .s (.one (.fr 6 b6)), .s (.one (.v (.int .i64 rb7)))] [] =
    callT (lvl Try.prog HH (n + 0)).2 43 [.s (.agg true [.fr 6 a4, .v (.int .i64 ra5), .fr 6 b6, .v (.int .i64 rb7)]), .s (.agg true [.v (.int .i64 n1), .v (.int .i64 n2), .v (.int .i64 n3)])] [] outs43 mouts43 fun y8 m9 =>
    some (.tup [.one (.v (.int .i64 y8.1)), .one (.v (.bool y8.2.1))], []) := by kernel_rfl

/-! armplan/plane.Separates -/
theorem fn25 (n : Nat) (n1 : Int) (n2 : Int) (n3 : Int) (a4 : List (List D1)) (ra5 : Int) (b6 : List (List D1)) (rb7 : Int) : (lvl Try.prog HH (n + 1)).2 25 [.s (.agg true [.v (.int .i64 n1), .v (.int .i64 n2), .v (.int .i64 n3)]), .s (.one (.fr 6 a4)), .s (.one (.v (.int .i64 ra5))), .s (.one (.fr 6 b6)), .s (.one (.v (.int .i64 rb7)))] [] =
    callT (lvl Try.prog HH (n + 0)).2 36 [.s (.agg true [.v (.int .i64 n1), .v (.int .i64 n2), .v (.int .i64 n3)]), .s (.one (.fr 6 a4)), .s (.one (.v (.int .i64 ra5))), .s (.one (.fr 6 b6)), .s (.one (.v (.int .i64 rb7)))] [] outs36 mouts36 fun y8 m9 =>
    bif y8.2.1 then (
      some (.s (.one (.v (.bool (decide (y8.1 > 0))))), []))
    else
    some (.s (.one (.v (.bool false))), []) := by kernel_rfl

/-! armplan/armplanlaw16.OverlapExcludes -/
theorem fn9_w (w : CallF → CallF) (v : LoopF → LoopF) (n : Nat) (l1 : List (List D1)) (m2 : List (List D1)) (w3 : List (List D1)) (x4 : Int) (y5 : Int) (z6 : Int) (p7 : Int) (q8 : Int) : (lvlW w v symL Try.prog HH (n + 1)).2 9 [.s (.one (.fr 1 l1)), .s (.one (.fr 1 m2)), .s (.one (.fr 1 w3)), .s (.one (.v (.int .i64 x4))), .s (.one (.v (.int .i64 y5))), .s (.one (.v (.int .i64 z6))), .s (.one (.v (.int .i64 p7))), .s (.one (.v (.int .i64 q8)))] [] =
    callT (w (lvlW w v symL Try.prog HH (n + 0)).2) 10 [.s (.one (.fr 1 l1)), .s (.one (.v (.int .i64 3000)))] [] outs10 mouts10 fun y9 m10 =>
    callT (w (lvlW w v symL Try.prog HH (n + 0)).2) 10 [.s (.one (.fr 1 m2)), .s (.one (.v (.int .i64 3000)))] [] outs10 mouts10 fun y11 m12 =>
    callT (w (lvlW w v symL Try.prog HH (n + 0)).2) 11 [.s (.one (.v (.int .i64 (((y9.1.length : Nat) : Int))))), .s (.one (.v (.int .i64 (((y11.1.length : Nat) : Int))))), .s (.one (.fr 1 w3))] [] outs11 mouts11 fun y13 m14 =>
    callT (w (lvlW w v symL Try.prog HH (n + 0)).2) 24 [.s (.one (.v (.int .i64 x4))), .s (.one (.v (.int .i64 y5))), .s (.one (.v (.int .i64 z6)))] [] outs24 mouts24 fun y15 m16 =>
    callT (w (lvlW w v symL Try.prog HH (n + 0)).2) 12 [] [] outs12 mouts12 fun y17 m18 =>
    bif y17.1 then (
      callT (w (lvlW w v symL Try.prog HH (n + 0)).2) 14 [.s (.one (.v (.int .i64 p7)))] [] outs14 mouts14 fun y19 m20 =>
      callT (w (lvlW w v symL Try.prog HH (n + 0)).2) 14 [.s (.one (.v (.int .i64 q8)))] [] outs14 mouts14 fun y21 m22 =>
      callT (w (lvlW w v symL Try.prog HH (n + 0)).2) 17 [.s (.one (.fr 1 y13.1)), .s (.one (.fr 1 y13.2.1)), .s (.one (.fr 6 y9.1)), .s (.one (.v (.int .i64 y19.1))), .s (.one (.fr 6 y11.1)), .s (.one (.v (.int .i64 y21.1)))] [] outs17 mouts17 fun y23 m24 =>
      bif y23.1 then (
        callT (w (lvlW w v symL Try.prog HH (n + 0)).2) 14 [.s (.one (.v (.int .i64 p7)))] [] outs14 mouts14 fun y25 m26 =>
        callT (w (lvlW w v symL Try.prog HH (n + 0)).2) 14 [.s (.one (.v (.int .i64 q8)))] [] outs14 mouts14 fun y27 m28 =>
        callT (w (lvlW w v symL Try.prog HH (n + 0)).2) 25 [.s (.agg true [.v (.int .i64 y15.1.1), .v (.int .i64 y15.1.2.1), .v (.int .i64 y15.1.2.2.1)]), .s (.one (.fr 6 y9.1)), .s (.one (.v (.int .i64 y25.1))), .s (.one (.fr 6 y11.1)), .s (.one (.v (.int .i64 y27.1)))] [] outs25 mouts25 fun y29 m30 =>
        some (.s (.one (.v (.bool (!y29.1)))), []))
      else
      some (.s (.one (.v (.bool true))), []))
    else
    some (.s (.one (.v (.bool false))), []) := by kernel_rfl
theorem fn9 (n : Nat) (l1 : List (List D1)) (m2 : List (List D1)) (w3 : List (List D1)) (x4 : Int) (y5 : Int) (z6 : Int) (p7 : Int) (q8 : Int) : (lvl Try.prog HH (n + 1)).2 9 [.s (.one (.fr 1 l1)), .s (.one (.fr 1 m2)), .s (.one (.fr 1 w3)), .s (.one (.v (.int .i64 x4))), .s (.one (.v (.int .i64 y5))), .s (.one (.v (.int .i64 z6))), .s (.one (.v (.int .i64 p7))), .s (.one (.v (.int .i64 q8)))] [] =
    callT (lvl Try.prog HH (n + 0)).2 10 [.s (.one (.fr 1 l1)), .s (.one (.v (.int .i64 3000)))] [] outs10 mouts10 fun y9 m10 =>
    callT (lvl Try.prog HH (n + 0)).2 10 [.s (.one (.fr 1 m2)), .s (.one (.v (.int .i64 3000)))] [] outs10 mouts10 fun y11 m12 =>
    callT (lvl Try.prog HH (n + 0)).2 11 [.s (.one (.v (.int .i64 (((y9.1.length : Nat) : Int))))), .s (.one (.v (.int .i64 (((y11.1.length : Nat) : Int))))), .s (.one (.fr 1 w3))] [] outs11 mouts11 fun y13 m14 =>
    callT (lvl Try.prog HH (n + 0)).2 24 [.s (.one (.v (.int .i64 x4))), .s (.one (.v (.int .i64 y5))), .s (.one (.v (.int .i64 z6)))] [] outs24 mouts24 fun y15 m16 =>
    callT (lvl Try.prog HH (n + 0)).2 12 [] [] outs12 mouts12 fun y17 m18 =>
    bif y17.1 then (
      callT (lvl Try.prog HH (n + 0)).2 14 [.s (.one (.v (.int .i64 p7)))] [] outs14 mouts14 fun y19 m20 =>
      callT (lvl Try.prog HH (n + 0)).2 14 [.s (.one (.v (.int .i64 q8)))] [] outs14 mouts14 fun y21 m22 =>
      callT (lvl Try.prog HH (n + 0)).2 17 [.s (.one (.fr 1 y13.1)), .s (.one (.fr 1 y13.2.1)), .s (.one (.fr 6 y9.1)), .s (.one (.v (.int .i64 y19.1))), .s (.one (.fr 6 y11.1)), .s (.one (.v (.int .i64 y21.1)))] [] outs17 mouts17 fun y23 m24 =>
      bif y23.1 then (
        callT (lvl Try.prog HH (n + 0)).2 14 [.s (.one (.v (.int .i64 p7)))] [] outs14 mouts14 fun y25 m26 =>
        callT (lvl Try.prog HH (n + 0)).2 14 [.s (.one (.v (.int .i64 q8)))] [] outs14 mouts14 fun y27 m28 =>
        callT (lvl Try.prog HH (n + 0)).2 25 [.s (.agg true [.v (.int .i64 y15.1.1), .v (.int .i64 y15.1.2.1), .v (.int .i64 y15.1.2.2.1)]), .s (.one (.fr 6 y9.1)), .s (.one (.v (.int .i64 y25.1))), .s (.one (.fr 6 y11.1)), .s (.one (.v (.int .i64 y27.1)))] [] outs25 mouts25 fun y29 m30 =>
        some (.s (.one (.v (.bool (!y29.1)))), []))
      else
      some (.s (.one (.v (.bool true))), []))
    else
    some (.s (.one (.v (.bool false))), []) := by
  have h := fn9_w (fun x => x) (fun x => x) n l1 m2 w3 x4 y5 z6 p7 q8
  rw [lvlW_id] at h
  exact h

end Go.Proofs.Ytilffjjibcebmaa.Am
