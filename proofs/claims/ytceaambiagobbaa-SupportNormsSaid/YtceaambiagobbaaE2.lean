/- PRINTED by amprint.py: what the abstract machine answers, function by function. -/
import Derived.Test.YtceaambiagobbaaH
import Derived.KernelRfl
set_option linter.unusedVariables false
set_option maxRecDepth 100000
namespace Go.Proofs.Ytceaambiagobbaa.Am
open Go Go.Proofs

/-! armplan/armplanlaw13.awake -/
theorem fn7 (n : Nat)  : (lvl Try.prog HH (n + 1)).2 7 [] [] =
    callT (lvl Try.prog HH (n + 0)).2 16 [.s (.agg true [.v (.int .i64 1), .v (.int .i64 (-2)), .v (.int .i64 0)]), .s (.agg true [.v (.int .i64 0), .v (.int .i64 1), .v (.int .i64 3), .v (.int .i64 4), .v (.int .i64 5), .v (.int .i64 5)])] [] outs16 mouts16 fun y1 m2 =>
    bif y1.1 == (-8) then (
      bif y1.2.1 == (-5) then (
        callT (lvl Try.prog HH (n + 0)).2 11 [.s (.agg true [.v (.int .i64 1), .v (.int .i64 1), .v (.int .i64 1)])] [] outs11 mouts11 fun y3 m4 =>
        some (.s (.one (.v (.bool (y3.1 == 2)))), []))
      else
      some (.s (.one (.v (.bool false))), []))
    else
    some (.s (.one (.v (.bool false))), []) := by kernel_rfl

/-! armplan/armplanlaw13.SupportNorms -/
theorem loop4_0 (n : Nat) (v20 : Bool) (v21 : Bool) (v22 : Int) (c23 : Int) (c24 : Int) (c25 : Int) (c26 : Int) (c27 : Int) (c28 : Int) (c29 : Int) (c30 : Int) (c31 : Int) : (lvl Try.prog HH (n + 1)).1 ⟨4, 0, true⟩ 0 (loopOf Try.f4 0) (encSt S4_0 (((), (), v20, (), v21, v22, ()), ((c23, c24, c25, ()), (c26, c27, c28, ()), (c29, c30, c31, ()), ()))) =
    bif decide (v22 < 3) then (
      bif (decide (0 ≤ v22)) && (decide (v22 < 3)) then (
        (nth ([.v (.int .i64 c26), .v (.int .i64 c27), .v (.int .i64 c28)] : List D1) (0 + (v22.toNat * 1))).bind fun d32 =>
        (asInt? .i64 d32).bind fun n33 =>
        bif decide (n33 > 0) then (
          bif (decide (0 ≤ v22)) && (decide (v22 < 3)) then (
            (nth ([.v (.int .i64 c23), .v (.int .i64 c24), .v (.int .i64 c25)] : List D1) (0 + (v22.toNat * 1))).bind fun d34 =>
            (asInt? .i64 d34).bind fun n35 =>
            bif decide (n35 ≤ 0) then (
              some (.ret, encSt S4_0_r ((false, ()), ())))
            else
            bif (decide (0 ≤ v22)) && (decide (v22 < 3)) then (
              (nth ([.v (.int .i64 c26), .v (.int .i64 c27), .v (.int .i64 c28)] : List D1) (0 + (v22.toNat * 1))).bind fun d36 =>
              (asInt? .i64 d36).bind fun n37 =>
              bif decide (n37 < 0) then (
                bif (decide (0 ≤ v22)) && (decide (v22 < 3)) then (
                  (nth ([.v (.int .i64 c23), .v (.int .i64 c24), .v (.int .i64 c25)] : List D1) (0 + (v22.toNat * 1))).bind fun d38 =>
                  (asInt? .i64 d38).bind fun n39 =>
                  bif decide (n39 ≥ 0) then (
                    some (.ret, encSt S4_0_r ((false, ()), ())))
                  else
                  letIn (IntKind.wrap .i64 (v22 + 1) : Int) fun n40 =>
                  (lvl Try.prog HH (n + 0)).1 ⟨4, 0, true⟩ 0 (loopOf Try.f4 0) (encSt S4_0 (((), (), v20, (), v21, n40, ()), ((c23, c24, c25, ()), (c26, c27, c28, ()), (c29, c30, c31, ()), ()))))
                else
                none)
              else
              letIn (IntKind.wrap .i64 (v22 + 1) : Int) fun n41 =>
              (lvl Try.prog HH (n + 0)).1 ⟨4, 0, true⟩ 0 (loopOf Try.f4 0) (encSt S4_0 (((), (), v20, (), v21, n41, ()), ((c23, c24, c25, ()), (c26, c27, c28, ()), (c29, c30, c31, ()), ()))))
            else
            none)
          else
          none)
        else
        bif (decide (0 ≤ v22)) && (decide (v22 < 3)) then (
          (nth ([.v (.int .i64 c26), .v (.int .i64 c27), .v (.int .i64 c28)] : List D1) (0 + (v22.toNat * 1))).bind fun d42 =>
          (asInt? .i64 d42).bind fun n43 =>
          bif decide (n43 < 0) then (
            bif (decide (0 ≤ v22)) && (decide (v22 < 3)) then (
              (nth ([.v (.int .i64 c23), .v (.int .i64 c24), .v (.int .i64 c25)] : List D1) (0 + (v22.toNat * 1))).bind fun d44 =>
              (asInt? .i64 d44).bind fun n45 =>
              bif decide (n45 ≥ 0) then (
                some (.ret, encSt S4_0_r ((false, ()), ())))
              else
              letIn (IntKind.wrap .i64 (v22 + 1) : Int) fun n46 =>
              (lvl Try.prog HH (n + 0)).1 ⟨4, 0, true⟩ 0 (loopOf Try.f4 0) (encSt S4_0 (((), (), v20, (), v21, n46, ()), ((c23, c24, c25, ()), (c26, c27, c28, ()), (c29, c30, c31, ()), ()))))
            else
            none)
          else
          letIn (IntKind.wrap .i64 (v22 + 1) : Int) fun n47 =>
          (lvl Try.prog HH (n + 0)).1 ⟨4, 0, true⟩ 0 (loopOf Try.f4 0) (encSt S4_0 (((), (), v20, (), v21, n47, ()), ((c23, c24, c25, ()), (c26, c27, c28, ()), (c29, c30, c31, ()), ()))))
        else
        none)
      else
      none)
    else
    some (.exit 0, encSt S4_0_e0 (((), v20, (), v21, ()), ((c26, c27, c28, ()), (c29, c30, c31, ()), ()))) := by kernel_rfl

theorem fn4_w (w : CallF → CallF) (v : LoopF → LoopF) (n : Nat) (v1 : Int) (v2 : Int) (v3 : Int) (shift4 : Int) : (lvlW w v symL Try.prog HH (n + 1)).2 4 [.s (.agg true [.v (.int .i64 v1), .v (.int .i64 v2), .v (.int .i64 v3)]), .s (.one (.v (.int .u8 shift4)))] [] =
    letIn (Int.tmod shift4 64 : Int) fun n5 =>
    bif decide (n5 < 0) then (
      none)
    else
    letIn (Int.fdiv v1 (2 ^ min n5.toNat 64) : Int) fun n6 =>
    letIn (Int.tmod shift4 64 : Int) fun n7 =>
    bif decide (n7 < 0) then (
      none)
    else
    letIn (Int.fdiv v2 (2 ^ min n7.toNat 64) : Int) fun n8 =>
    letIn (IntKind.wrap .u8 (Int.tdiv shift4 4) : Int) fun n9 =>
    letIn (Int.tmod n9 64 : Int) fun n10 =>
    bif decide (n10 < 0) then (
      none)
    else
    letIn (Int.fdiv v3 (2 ^ min n10.toNat 64) : Int) fun n11 =>
    callT (w (lvlW w v symL Try.prog HH (n + 0)).2) 10 [.s (.agg true [.v (.int .i64 n6), .v (.int .i64 n8), .v (.int .i64 n11)])] [] outs10 mouts10 fun y12 m13 =>
    letIn ((n6 == 0) && ((n8 == 0) && ((n11 == 0) && true)) : Bool) fun b14 =>
    bif b14 then (
      callT (w (lvlW w v symL Try.prog HH (n + 0)).2) 7 [] [] outs7 mouts7 fun y15 m16 =>
      bif y15.1 then (
        bif !y12.2.1 then (
          letIn ((y12.1.1 == n6) && ((y12.1.2.1 == n8) && ((y12.1.2.2.1 == n11) && true)) : Bool) fun b17 =>
          some (.s (.one (.v (.bool b17))), []))
        else
        some (.s (.one (.v (.bool false))), []))
      else
      some (.s (.one (.v (.bool false))), []))
    else
    callT (w (lvlW w v symL Try.prog HH (n + 0)).2) 10 [.s (.agg true [.v (.int .i64 y12.1.1), .v (.int .i64 y12.1.2.1), .v (.int .i64 y12.1.2.2.1)])] [] outs10 mouts10 fun y18 m19 =>
    (v (lvlW w v symL Try.prog HH (n + 0)).1 ⟨4, 0, true⟩ 0 (loopOf Try.f4 0) (encSt S4_0 (((), (), y12.2.1, (), y18.2.1, 0, ()), ((n6, n8, n11, ()), (y12.1.1, y12.1.2.1, y12.1.2.2.1, ()), (y18.1.1, y18.1.2.1, y18.1.2.2.1, ()), ())))).bind fun p48 =>
    bif sameEx (.ret) p48.1 then (decSt S4_0_r p48.2 fun x49 =>
      some (.s (.one (.v (.bool x49.1.1))), []))
    else
    bif sameEx (.exit 0) p48.1 then (decSt S4_0_e0 p48.2 fun x50 =>
      callT (w (lvlW w v symL Try.prog HH (n + 0)).2) 11 [.s (.agg true [.v (.int .i64 x50.2.1.1), .v (.int .i64 x50.2.1.2.1), .v (.int .i64 x50.2.1.2.2.1)])] [] outs11 mouts11 fun y51 m52 =>
      letIn (IntKind.wrap .i64 (x50.2.1.1 * x50.2.1.1) : Int) fun n53 =>
      letIn (IntKind.wrap .i64 (x50.2.1.2.1 * x50.2.1.2.1) : Int) fun n54 =>
      letIn (IntKind.wrap .i64 (n53 + n54) : Int) fun n55 =>
      letIn (IntKind.wrap .i64 (x50.2.1.2.2.1 * x50.2.1.2.2.1) : Int) fun n56 =>
      letIn (IntKind.wrap .i64 (n55 + n56) : Int) fun n57 =>
      callT (w (lvlW w v symL Try.prog HH (n + 0)).2) 7 [] [] outs7 mouts7 fun y58 m59 =>
      bif y58.1 then (
        bif x50.1.2.1 then (
          bif x50.1.2.2.2.1 then (
            letIn ((x50.2.2.1.1 == x50.2.1.1) && ((x50.2.2.1.2.1 == x50.2.1.2.1) && ((x50.2.2.1.2.2.1 == x50.2.1.2.2.1) && true)) : Bool) fun b60 =>
            bif b60 then (
              callT (w (lvlW w v symL Try.prog HH (n + 0)).2) 9 [.s (.agg true [.v (.int .i64 x50.2.1.1), .v (.int .i64 x50.2.1.2.1), .v (.int .i64 x50.2.1.2.2.1)])] [] outs9 mouts9 fun y61 m62 =>
              bif y61.1 then (
                bif decide (y51.1 > 0) then (
                  bif decide (y51.1 ≤ 65536) then (
                    letIn (IntKind.wrap .i64 (y51.1 * y51.1) : Int) fun n63 =>
                    bif decide (n63 ≥ n57) then (
                      letIn (IntKind.wrap .i64 (y51.1 - 1) : Int) fun n64 =>
                      letIn (IntKind.wrap .i64 (y51.1 - 1) : Int) fun n65 =>
                      letIn (IntKind.wrap .i64 (n64 * n65) : Int) fun n66 =>
                      some (.s (.one (.v (.bool (decide (n66 < n57))))), []))
                    else
                    some (.s (.one (.v (.bool false))), []))
                  else
                  some (.s (.one (.v (.bool false))), []))
                else
                some (.s (.one (.v (.bool false))), []))
              else
              some (.s (.one (.v (.bool false))), []))
            else
            some (.s (.one (.v (.bool false))), []))
          else
          some (.s (.one (.v (.bool false))), []))
        else
        some (.s (.one (.v (.bool false))), []))
      else
      some (.s (.one (.v (.bool false))), []))
    else
    none := by kernel_rfl
theorem fn4 (n : Nat) (v1 : Int) (v2 : Int) (v3 : Int) (shift4 : Int) : (lvl Try.prog HH (n + 1)).2 4 [.s (.agg true [.v (.int .i64 v1), .v (.int .i64 v2), .v (.int .i64 v3)]), .s (.one (.v (.int .u8 shift4)))] [] =
    letIn (Int.tmod shift4 64 : Int) fun n5 =>
    bif decide (n5 < 0) then (
      none)
    else
    letIn (Int.fdiv v1 (2 ^ min n5.toNat 64) : Int) fun n6 =>
    letIn (Int.tmod shift4 64 : Int) fun n7 =>
    bif decide (n7 < 0) then (
      none)
    else
    letIn (Int.fdiv v2 (2 ^ min n7.toNat 64) : Int) fun n8 =>
    letIn (IntKind.wrap .u8 (Int.tdiv shift4 4) : Int) fun n9 =>
    letIn (Int.tmod n9 64 : Int) fun n10 =>
    bif decide (n10 < 0) then (
      none)
    else
    letIn (Int.fdiv v3 (2 ^ min n10.toNat 64) : Int) fun n11 =>
    callT (lvl Try.prog HH (n + 0)).2 10 [.s (.agg true [.v (.int .i64 n6), .v (.int .i64 n8), .v (.int .i64 n11)])] [] outs10 mouts10 fun y12 m13 =>
    letIn ((n6 == 0) && ((n8 == 0) && ((n11 == 0) && true)) : Bool) fun b14 =>
    bif b14 then (
      callT (lvl Try.prog HH (n + 0)).2 7 [] [] outs7 mouts7 fun y15 m16 =>
      bif y15.1 then (
        bif !y12.2.1 then (
          letIn ((y12.1.1 == n6) && ((y12.1.2.1 == n8) && ((y12.1.2.2.1 == n11) && true)) : Bool) fun b17 =>
          some (.s (.one (.v (.bool b17))), []))
        else
        some (.s (.one (.v (.bool false))), []))
      else
      some (.s (.one (.v (.bool false))), []))
    else
    callT (lvl Try.prog HH (n + 0)).2 10 [.s (.agg true [.v (.int .i64 y12.1.1), .v (.int .i64 y12.1.2.1), .v (.int .i64 y12.1.2.2.1)])] [] outs10 mouts10 fun y18 m19 =>
    ((lvl Try.prog HH (n + 0)).1 ⟨4, 0, true⟩ 0 (loopOf Try.f4 0) (encSt S4_0 (((), (), y12.2.1, (), y18.2.1, 0, ()), ((n6, n8, n11, ()), (y12.1.1, y12.1.2.1, y12.1.2.2.1, ()), (y18.1.1, y18.1.2.1, y18.1.2.2.1, ()), ())))).bind fun p48 =>
    bif sameEx (.ret) p48.1 then (decSt S4_0_r p48.2 fun x49 =>
      some (.s (.one (.v (.bool x49.1.1))), []))
    else
    bif sameEx (.exit 0) p48.1 then (decSt S4_0_e0 p48.2 fun x50 =>
      callT (lvl Try.prog HH (n + 0)).2 11 [.s (.agg true [.v (.int .i64 x50.2.1.1), .v (.int .i64 x50.2.1.2.1), .v (.int .i64 x50.2.1.2.2.1)])] [] outs11 mouts11 fun y51 m52 =>
      letIn (IntKind.wrap .i64 (x50.2.1.1 * x50.2.1.1) : Int) fun n53 =>
      letIn (IntKind.wrap .i64 (x50.2.1.2.1 * x50.2.1.2.1) : Int) fun n54 =>
      letIn (IntKind.wrap .i64 (n53 + n54) : Int) fun n55 =>
      letIn (IntKind.wrap .i64 (x50.2.1.2.2.1 * x50.2.1.2.2.1) : Int) fun n56 =>
      letIn (IntKind.wrap .i64 (n55 + n56) : Int) fun n57 =>
      callT (lvl Try.prog HH (n + 0)).2 7 [] [] outs7 mouts7 fun y58 m59 =>
      bif y58.1 then (
        bif x50.1.2.1 then (
          bif x50.1.2.2.2.1 then (
            letIn ((x50.2.2.1.1 == x50.2.1.1) && ((x50.2.2.1.2.1 == x50.2.1.2.1) && ((x50.2.2.1.2.2.1 == x50.2.1.2.2.1) && true)) : Bool) fun b60 =>
            bif b60 then (
              callT (lvl Try.prog HH (n + 0)).2 9 [.s (.agg true [.v (.int .i64 x50.2.1.1), .v (.int .i64 x50.2.1.2.1), .v (.int .i64 x50.2.1.2.2.1)])] [] outs9 mouts9 fun y61 m62 =>
              bif y61.1 then (
                bif decide (y51.1 > 0) then (
                  bif decide (y51.1 ≤ 65536) then (
                    letIn (IntKind.wrap .i64 (y51.1 * y51.1) : Int) fun n63 =>
                    bif decide (n63 ≥ n57) then (
                      letIn (IntKind.wrap .i64 (y51.1 - 1) : Int) fun n64 =>
                      letIn (IntKind.wrap .i64 (y51.1 - 1) : Int) fun n65 =>
                      letIn (IntKind.wrap .i64 (n64 * n65) : Int) fun n66 =>
                      some (.s (.one (.v (.bool (decide (n66 < n57))))), []))
                    else
                    some (.s (.one (.v (.bool false))), []))
                  else
                  some (.s (.one (.v (.bool false))), []))
                else
                some (.s (.one (.v (.bool false))), []))
              else
              some (.s (.one (.v (.bool false))), []))
            else
            some (.s (.one (.v (.bool false))), []))
          else
          some (.s (.one (.v (.bool false))), []))
        else
        some (.s (.one (.v (.bool false))), []))
      else
      some (.s (.one (.v (.bool false))), []))
    else
    none := by
  have h := fn4_w (fun x => x) (fun x => x) n v1 v2 v3 shift4
  rw [lvlW_id] at h
  exact h

end Go.Proofs.Ytceaambiagobbaa.Am
