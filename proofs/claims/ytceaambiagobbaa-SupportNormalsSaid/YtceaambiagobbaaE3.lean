/- PRINTED by amprint.py: what the abstract machine answers, function by function. -/
import Derived.Test.YtceaambiagobbaaH
import Derived.KernelRfl
set_option linter.unusedVariables false
set_option maxRecDepth 100000
namespace Go.Proofs.Ytceaambiagobbaa.Am
open Go Go.Proofs

/-! armplan/armplanref10.Norm -/
theorem fn18 (n : Nat) (n1 : Int) (n2 : Int) (n3 : Int) : (lvl Try.prog HH (n + 1)).2 18 [.s (.agg true [.v (.int .i64 n1), .v (.int .i64 n2), .v (.int .i64 n3)])] [] =
    callT (lvl Try.prog HH (n + 0)).2 15 [.s (.agg true [.v (.int .i64 n1), .v (.int .i64 n2), .v (.int .i64 n3)])] [] outs15 mouts15 fun y4 m5 =>
    bif !y4.1 then (
      some (.s (.one (.v (.int .i64 0))), []))
    else
    letIn (IntKind.wrap .i64 (n1 * n1) : Int) fun n6 =>
    letIn (IntKind.wrap .i64 (n2 * n2) : Int) fun n7 =>
    letIn (IntKind.wrap .i64 (n6 + n7) : Int) fun n8 =>
    letIn (IntKind.wrap .i64 (n3 * n3) : Int) fun n9 =>
    letIn (IntKind.wrap .i64 (n8 + n9) : Int) fun n10 =>
    callT (lvl Try.prog HH (n + 0)).2 31 [.s (.one (.v (.int .i64 n10)))] [] outs31 mouts31 fun y11 m12 =>
    some (.s (.one (.v (.int .i64 y11.1))), []) := by kernel_rfl

/-! armplan/armplanlaw13.normals -/
theorem fn8_w (w : CallF → CallF) (v : LoopF → LoopF) (n : Nat) (v1 : Int) (v2 : Int) (v3 : Int) : (lvlW w v symL Try.prog HH (n + 1)).2 8 [.s (.agg true [.v (.int .i64 v1), .v (.int .i64 v2), .v (.int .i64 v3)])] [] =
    callT (w (lvlW w v symL Try.prog HH (n + 0)).2) 10 [.s (.agg true [.v (.int .i64 v1), .v (.int .i64 v2), .v (.int .i64 v3)])] [] outs10 mouts10 fun y4 m5 =>
    callT (w (lvlW w v symL Try.prog HH (n + 0)).2) 17 [.s (.agg true [.v (.int .i64 v1), .v (.int .i64 v2), .v (.int .i64 v3)])] [] outs17 mouts17 fun y6 m7 =>
    callT (w (lvlW w v symL Try.prog HH (n + 0)).2) 9 [.s (.agg true [.v (.int .i64 v1), .v (.int .i64 v2), .v (.int .i64 v3)])] [] outs9 mouts9 fun y8 m9 =>
    callT (w (lvlW w v symL Try.prog HH (n + 0)).2) 15 [.s (.agg true [.v (.int .i64 v1), .v (.int .i64 v2), .v (.int .i64 v3)])] [] outs15 mouts15 fun y10 m11 =>
    bif y8.1 == y10.1 then (
      letIn ((y4.1.1 == y6.1.1) && ((y4.1.2.1 == y6.1.2.1) && ((y4.1.2.2.1 == y6.1.2.2.1) && true)) : Bool) fun b12 =>
      bif b12 then (
        bif y4.2.1 == y6.2.1 then (
          callT (w (lvlW w v symL Try.prog HH (n + 0)).2) 11 [.s (.agg true [.v (.int .i64 v1), .v (.int .i64 v2), .v (.int .i64 v3)])] [] outs11 mouts11 fun y13 m14 =>
          callT (w (lvlW w v symL Try.prog HH (n + 0)).2) 18 [.s (.agg true [.v (.int .i64 v1), .v (.int .i64 v2), .v (.int .i64 v3)])] [] outs18 mouts18 fun y15 m16 =>
          some (.s (.one (.v (.bool (y13.1 == y15.1)))), []))
        else
        some (.s (.one (.v (.bool false))), []))
      else
      some (.s (.one (.v (.bool false))), []))
    else
    some (.s (.one (.v (.bool false))), []) := by kernel_rfl
theorem fn8 (n : Nat) (v1 : Int) (v2 : Int) (v3 : Int) : (lvl Try.prog HH (n + 1)).2 8 [.s (.agg true [.v (.int .i64 v1), .v (.int .i64 v2), .v (.int .i64 v3)])] [] =
    callT (lvl Try.prog HH (n + 0)).2 10 [.s (.agg true [.v (.int .i64 v1), .v (.int .i64 v2), .v (.int .i64 v3)])] [] outs10 mouts10 fun y4 m5 =>
    callT (lvl Try.prog HH (n + 0)).2 17 [.s (.agg true [.v (.int .i64 v1), .v (.int .i64 v2), .v (.int .i64 v3)])] [] outs17 mouts17 fun y6 m7 =>
    callT (lvl Try.prog HH (n + 0)).2 9 [.s (.agg true [.v (.int .i64 v1), .v (.int .i64 v2), .v (.int .i64 v3)])] [] outs9 mouts9 fun y8 m9 =>
    callT (lvl Try.prog HH (n + 0)).2 15 [.s (.agg true [.v (.int .i64 v1), .v (.int .i64 v2), .v (.int .i64 v3)])] [] outs15 mouts15 fun y10 m11 =>
    bif y8.1 == y10.1 then (
      letIn ((y4.1.1 == y6.1.1) && ((y4.1.2.1 == y6.1.2.1) && ((y4.1.2.2.1 == y6.1.2.2.1) && true)) : Bool) fun b12 =>
      bif b12 then (
        bif y4.2.1 == y6.2.1 then (
          callT (lvl Try.prog HH (n + 0)).2 11 [.s (.agg true [.v (.int .i64 v1), .v (.int .i64 v2), .v (.int .i64 v3)])] [] outs11 mouts11 fun y13 m14 =>
          callT (lvl Try.prog HH (n + 0)).2 18 [.s (.agg true [.v (.int .i64 v1), .v (.int .i64 v2), .v (.int .i64 v3)])] [] outs18 mouts18 fun y15 m16 =>
          some (.s (.one (.v (.bool (y13.1 == y15.1)))), []))
        else
        some (.s (.one (.v (.bool false))), []))
      else
      some (.s (.one (.v (.bool false))), []))
    else
    some (.s (.one (.v (.bool false))), []) := by
  have h := fn8_w (fun x => x) (fun x => x) n v1 v2 v3
  rw [lvlW_id] at h
  exact h

/-! armplan/armplanlaw13.SupportNormals -/
theorem fn3_w (w : CallF → CallF) (v : LoopF → LoopF) (n : Nat) (v1 : Int) (v2 : Int) (v3 : Int) (a4 : Int) (b5 : Int) (c6 : Int) (shift7 : Int) : (lvlW w v symL Try.prog HH (n + 1)).2 3 [.s (.agg true [.v (.int .i64 v1), .v (.int .i64 v2), .v (.int .i64 v3)]), .s (.one (.v (.int .i64 a4))), .s (.one (.v (.int .i64 b5))), .s (.one (.v (.int .i64 c6))), .s (.one (.v (.int .u8 shift7)))] [] =
    callT (w (lvlW w v symL Try.prog HH (n + 0)).2) 6 [.s (.one (.v (.int .i64 a4))), .s (.one (.v (.int .i64 b5))), .s (.one (.v (.int .i64 c6)))] [] outs6 mouts6 fun y8 m9 =>
    letIn (Int.tmod shift7 64 : Int) fun n10 =>
    bif decide (n10 < 0) then (
      none)
    else
    letIn (Int.fdiv v1 (2 ^ min n10.toNat 64) : Int) fun n11 =>
    letIn (Int.tmod shift7 64 : Int) fun n12 =>
    bif decide (n12 < 0) then (
      none)
    else
    letIn (Int.fdiv v2 (2 ^ min n12.toNat 64) : Int) fun n13 =>
    letIn (IntKind.wrap .u8 (Int.tdiv shift7 4) : Int) fun n14 =>
    letIn (Int.tmod n14 64 : Int) fun n15 =>
    bif decide (n15 < 0) then (
      none)
    else
    letIn (Int.fdiv v3 (2 ^ min n15.toNat 64) : Int) fun n16 =>
    callT (w (lvlW w v symL Try.prog HH (n + 0)).2) 7 [] [] outs7 mouts7 fun y17 m18 =>
    bif y17.1 then (
      callT (w (lvlW w v symL Try.prog HH (n + 0)).2) 8 [.s (.agg true [.v (.int .i64 v1), .v (.int .i64 v2), .v (.int .i64 v3)])] [] outs8 mouts8 fun y19 m20 =>
      bif y19.1 then (
        callT (w (lvlW w v symL Try.prog HH (n + 0)).2) 8 [.s (.agg true [.v (.int .i64 n11), .v (.int .i64 n13), .v (.int .i64 n16)])] [] outs8 mouts8 fun y21 m22 =>
        bif y21.1 then (
          callT (w (lvlW w v symL Try.prog HH (n + 0)).2) 8 [.s (.agg true [.v (.int .i64 y8.1.1), .v (.int .i64 y8.1.2.1), .v (.int .i64 y8.1.2.2.1)])] [] outs8 mouts8 fun y23 m24 =>
          bif y23.1 then (
            callT (w (lvlW w v symL Try.prog HH (n + 0)).2) 9 [.s (.agg true [.v (.int .i64 y8.1.1), .v (.int .i64 y8.1.2.1), .v (.int .i64 y8.1.2.2.1)])] [] outs9 mouts9 fun y25 m26 =>
            some (.s (.one (.v (.bool y25.1))), []))
          else
          some (.s (.one (.v (.bool false))), []))
        else
        some (.s (.one (.v (.bool false))), []))
      else
      some (.s (.one (.v (.bool false))), []))
    else
    some (.s (.one (.v (.bool false))), []) := by kernel_rfl
theorem fn3 (n : Nat) (v1 : Int) (v2 : Int) (v3 : Int) (a4 : Int) (b5 : Int) (c6 : Int) (shift7 : Int) : (lvl Try.prog HH (n + 1)).2 3 [.s (.agg true [.v (.int .i64 v1), .v (.int .i64 v2), .v (.int .i64 v3)]), .s (.one (.v (.int .i64 a4))), .s (.one (.v (.int .i64 b5))), .s (.one (.v (.int .i64 c6))), .s (.one (.v (.int .u8 shift7)))] [] =
    callT (lvl Try.prog HH (n + 0)).2 6 [.s (.one (.v (.int .i64 a4))), .s (.one (.v (.int .i64 b5))), .s (.one (.v (.int .i64 c6)))] [] outs6 mouts6 fun y8 m9 =>
    letIn (Int.tmod shift7 64 : Int) fun n10 =>
    bif decide (n10 < 0) then (
      none)
    else
    letIn (Int.fdiv v1 (2 ^ min n10.toNat 64) : Int) fun n11 =>
    letIn (Int.tmod shift7 64 : Int) fun n12 =>
    bif decide (n12 < 0) then (
      none)
    else
    letIn (Int.fdiv v2 (2 ^ min n12.toNat 64) : Int) fun n13 =>
    letIn (IntKind.wrap .u8 (Int.tdiv shift7 4) : Int) fun n14 =>
    letIn (Int.tmod n14 64 : Int) fun n15 =>
    bif decide (n15 < 0) then (
      none)
    else
    letIn (Int.fdiv v3 (2 ^ min n15.toNat 64) : Int) fun n16 =>
    callT (lvl Try.prog HH (n + 0)).2 7 [] [] outs7 mouts7 fun y17 m18 =>
    bif y17.1 then (
      callT (lvl Try.prog HH (n + 0)).2 8 [.s (.agg true [.v (.int .i64 v1), .v (.int .i64 v2), .v (.int .i64 v3)])] [] outs8 mouts8 fun y19 m20 =>
      bif y19.1 then (
        callT (lvl Try.prog HH (n + 0)).2 8 [.s (.agg true [.v (.int .i64 n11), .v (.int .i64 n13), .v (.int .i64 n16)])] [] outs8 mouts8 fun y21 m22 =>
        bif y21.1 then (
          callT (lvl Try.prog HH (n + 0)).2 8 [.s (.agg true [.v (.int .i64 y8.1.1), .v (.int .i64 y8.1.2.1), .v (.int .i64 y8.1.2.2.1)])] [] outs8 mouts8 fun y23 m24 =>
          bif y23.1 then (
            callT (lvl Try.prog HH (n + 0)).2 9 [.s (.agg true [.v (.int .i64 y8.1.1), .v (.int .i64 y8.1.2.1), .v (.int .i64 y8.1.2.2.1)])] [] outs9 mouts9 fun y25 m26 =>
            some (.s (.one (.v (.bool y25.1))), []))
          else
          some (.s (.one (.v (.bool false))), []))
        else
        some (.s (.one (.v (.bool false))), []))
      else
      some (.s (.one (.v (.bool false))), []))
    else
    some (.s (.one (.v (.bool false))), []) := by
  have h := fn3_w (fun x => x) (fun x => x) n v1 v2 v3 a4 b5 c6 shift7
  rw [lvlW_id] at h
  exact h

end Go.Proofs.Ytceaambiagobbaa.Am
