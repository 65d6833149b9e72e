/- PRINTED by amprint.py: the shapes that the abstract machine is told. -/
import Derived.Test.YtceaambiagobbaaAmW
import Derived.Test.YtceaambiagobbaaProg
set_option linter.unusedVariables false
namespace Go.Proofs.Ytceaambiagobbaa.Am
open Go Go.Proofs

def look {α : Type} (d : α) : List (Nat × α) → Nat → α
  | [], _ => d
  | (k, x) :: r, f => bif Nat.beq k f then x else look d r f
def look2 {α : Type} (d : α) : List (Nat × Nat × α) → Nat → Nat → α
  | [], _, _ => d
  | (k, b, x) :: r, f, g => bif Nat.beq k f && Nat.beq b g then x else look2 d r f g
/-- the body of the loop in block b -/
def loopIn (b : Nat) : Nat → Code → Option Code
  | bid, .seq x y => match loopIn b bid x with | some c => some c | none => loopIn b bid y
  | bid, .cond _ x y => match loopIn b bid x with | some c => some c | none => loopIn b bid y
  | _, .block i c => loopIn b i c
  | bid, .loop c => bif Nat.beq bid b then some c else loopIn b bid c
  | _, _ => none
def loopOf (fn : Func) (b : Nat) : Code := match fn.body with
  | some c => match loopIn b 0 c with | some c => c | none => .skip
  | none => .skip

abbrev outs14 : List Vt := [.c (.int .i64)]
abbrev mouts14 : List Mt := []
abbrev outs28 : List Vt := [.c (.bool)]
abbrev mouts28 : List Mt := []
abbrev S28_0 : StTy := ⟨23, [(1, .c (.int .i64)), (2, .c (.ptr 0 0 0)), (5, .c (.int .i64))], [.cells true [.int .i64, .int .i64, .int .i64]]⟩
abbrev S28_0_e0 : StTy := ⟨23, [], []⟩
abbrev S28_0_r : StTy := ⟨23, [(4, .c (.bool))], []⟩
abbrev outs15 : List Vt := [.c (.bool)]
abbrev mouts15 : List Mt := []
abbrev outs6 : List Vt := [.agg [.int .i64, .int .i64, .int .i64]]
abbrev mouts6 : List Mt := []
abbrev outs21 : List Vt := [.c (.ptr 0 0 0)]
abbrev mouts21 : List Mt := [.cells true [.sl 1, .int .i64]]
abbrev outs23 : List Vt := [.c (.int .i64)]
abbrev mouts23 : List Mt := [.cells true [.sl 1, .int .i64]]
abbrev outs22 : List Vt := [.c (.int .i64)]
abbrev mouts22 : List Mt := [.cells true [.sl 1, .int .i64]]
abbrev outs12 : List Vt := [.c (.fs 0)]
abbrev mouts12 : List Mt := [.arr 6 true]
abbrev S12_0 : StTy := ⟨60, [(1, .c (.int .i64)), (5, .c (.ptr 0 0 0)), (6, .c (.ptr 1 0 0)), (7, .c (.fs 2)), (8, .c (.int .i64))], [.cells true [.sl 1, .int .i64], .cells true [.int .i64, .int .i64, .int .i64], .arr 6 true]⟩
abbrev S12_0_e0 : StTy := ⟨60, [(7, .c (.fs 0))], [.arr 6 true]⟩
abbrev S12_2 : StTy := ⟨60, [(1, .c (.int .i64)), (5, .c (.ptr 0 0 0)), (6, .c (.ptr 1 0 0)), (7, .c (.fs 2)), (8, .c (.int .i64)), (9, .c (.ptr 3 0 0)), (10, .c (.int .i64))], [.cells true [.sl 1, .int .i64], .cells true [.int .i64, .int .i64, .int .i64], .arr 6 true, .cells true [.int .i64, .int .i64, .int .i64, .int .i64, .int .i64, .int .i64]]⟩
abbrev S12_2_e2 : StTy := ⟨60, [(1, .c (.int .i64)), (5, .c (.ptr 0 0 0)), (6, .c (.ptr 1 0 0)), (7, .c (.fs 2)), (8, .c (.int .i64)), (9, .c (.ptr 3 0 0))], [.cells true [.sl 1, .int .i64], .cells true [.int .i64, .int .i64, .int .i64], .arr 6 true, .cells true [.int .i64, .int .i64, .int .i64, .int .i64, .int .i64, .int .i64]]⟩
abbrev outs19 : List Vt := [.c (.bool)]
abbrev mouts19 : List Mt := []
abbrev S19_0 : StTy := ⟨16, [(5, .agg [.int .i64, .int .i64, .int .i64]), (6, .c (.int .i64))], []⟩
abbrev S19_0_e0 : StTy := ⟨16, [], []⟩
abbrev S19_0_r : StTy := ⟨16, [(2, .c (.bool))], []⟩
abbrev outs9 : List Vt := [.c (.bool)]
abbrev mouts9 : List Mt := []
abbrev outs40 : List Vt := [.c (.bool)]
abbrev mouts40 : List Mt := []
abbrev outs29 : List Vt := [.c (.bool)]
abbrev mouts29 : List Mt := []
abbrev S29_0 : StTy := ⟨36, [(0, .c (.sl 6)), (5, .c (.sl 6)), (6, .c (.int .i64)), (7, .c (.int .i64))], []⟩
abbrev S29_0_e0 : StTy := ⟨36, [(0, .c (.sl 6))], []⟩
abbrev S29_0_r : StTy := ⟨36, [(2, .c (.bool))], []⟩
abbrev outs30 : List Vt := [.c (.int .i64), .c (.int .i64)]
abbrev mouts30 : List Mt := []
abbrev S30_0 : StTy := ⟨42, [(2, .c (.ptr 0 0 0)), (6, .c (.int .i64)), (7, .c (.int .i64)), (12, .agg [.int .i64, .int .i64, .int .i64, .int .i64, .int .i64, .int .i64]), (13, .c (.int .i64))], [.cells true [.int .i64, .int .i64, .int .i64]]⟩
abbrev S30_0_e0 : StTy := ⟨42, [(6, .c (.int .i64)), (7, .c (.int .i64))], []⟩
abbrev outs16 : List Vt := [.c (.int .i64), .c (.int .i64)]
abbrev mouts16 : List Mt := []
abbrev outs32 : List Vt := [.c (.int .i64)]
abbrev mouts32 : List Mt := []
abbrev S32_0 : StTy := ⟨24, [(0, .c (.int .i64)), (3, .c (.int .i64)), (8, .c (.int .i64))], []⟩
abbrev S32_0_e0 : StTy := ⟨24, [(3, .c (.int .i64))], []⟩
abbrev outs20 : List Vt := [.c (.int .i64)]
abbrev mouts20 : List Mt := []
abbrev outs11 : List Vt := [.c (.int .i64)]
abbrev mouts11 : List Mt := []
abbrev outs7 : List Vt := [.c (.bool)]
abbrev mouts7 : List Mt := []
abbrev outs33 : List Vt := [.c (.int .i64)]
abbrev mouts33 : List Mt := [.cells true [.int .i64, .int .i64, .int .i64]]
abbrev outs34 : List Vt := [.c (.bool)]
abbrev mouts34 : List Mt := []
abbrev outs35 : List Vt := [.c (.int .i64), .c (.int .i64)]
abbrev mouts35 : List Mt := [.cells true [.int .i64, .int .i64, .int .i64]]
abbrev S35s0_0 : StTy := ⟨38, [(2, .c (.ptr 1 0 0)), (6, .c (.int .i64)), (7, .c (.int .i64)), (17, .c (.sl 6)), (18, .c (.int .i64)), (19, .c (.int .i64))], [.cells true [.int .i64, .int .i64, .int .i64], .cells false [.raw, .raw]]⟩
abbrev S35s0_0_e0 : StTy := ⟨38, [(6, .c (.int .i64)), (7, .c (.int .i64))], [.cells true [.int .i64, .int .i64, .int .i64]]⟩
abbrev outs24 : List Vt := [.c (.int .i64), .c (.int .i64), .c (.bool)]
abbrev mouts24 : List Mt := []
abbrev outs42 : List Vt := [.c (.bool)]
abbrev mouts42 : List Mt := []
abbrev S42_0 : StTy := ⟨31, [(1, .c (.ptr 0 0 0)), (3, .c (.int .i64))], [.cells true [.int .i64, .int .i64, .int .i64, .int .i64, .int .i64, .int .i64]]⟩
abbrev S42_0_e0 : StTy := ⟨31, [], []⟩
abbrev S42_0_r : StTy := ⟨31, [(2, .c (.bool))], []⟩
abbrev outs36 : List Vt := [.c (.bool)]
abbrev mouts36 : List Mt := []
abbrev S36_0 : StTy := ⟨28, [(0, .c (.sl 6)), (3, .c (.int .i64))], []⟩
abbrev S36_0_e0 : StTy := ⟨28, [(0, .c (.sl 6))], []⟩
abbrev S36_0_r : StTy := ⟨28, [(2, .c (.bool))], []⟩
abbrev outs37 : List Vt := [.c (.int .i64), .c (.int .i64)]
abbrev mouts37 : List Mt := []
abbrev S37_0 : StTy := ⟨51, [(2, .c (.ptr 0 0 0)), (3, .c (.ptr 1 0 0)), (6, .c (.int .i64)), (7, .c (.int .i64)), (8, .c (.int .i64))], [.cells true [.int .i64, .int .i64, .int .i64], .cells true [.int .i64, .int .i64, .int .i64, .int .i64, .int .i64, .int .i64]]⟩
abbrev S37_0_e0 : StTy := ⟨51, [(6, .c (.int .i64)), (7, .c (.int .i64))], []⟩
abbrev outs25 : List Vt := [.c (.int .i64), .c (.int .i64), .c (.bool)]
abbrev mouts25 : List Mt := []
abbrev S25_0 : StTy := ⟨46, [(1, .c (.sl 6)), (2, .c (.ptr 0 0 0)), (7, .c (.int .i64)), (8, .c (.int .i64)), (9, .c (.int .i64))], [.cells true [.int .i64, .int .i64, .int .i64]]⟩
abbrev S25_0_e0 : StTy := ⟨46, [(7, .c (.int .i64)), (8, .c (.int .i64))], []⟩
abbrev outs38 : List Vt := [.c (.int .i64)]
abbrev mouts38 : List Mt := [.cells true [.int .i64, .int .i64, .int .i64]]
abbrev outs39 : List Vt := [.c (.bool)]
abbrev mouts39 : List Mt := []
abbrev S35s1_0 : StTy := S35s0_0
abbrev S35s1_0_e0 : StTy := S35s0_0_e0
abbrev outs26 : List Vt := [.c (.int .i64), .c (.int .i64), .c (.bool)]
abbrev mouts26 : List Mt := []
abbrev outs27 : List Vt := [.c (.int .i64), .c (.int .i64), .c (.bool)]
abbrev mouts27 : List Mt := []
abbrev S27_0 : StTy := ⟨46, [(1, .c (.sl 6)), (2, .c (.ptr 0 0 0)), (7, .c (.int .i64)), (8, .c (.int .i64)), (9, .c (.int .i64))], [.cells true [.int .i64, .int .i64, .int .i64]]⟩
abbrev S27_0_e0 : StTy := ⟨46, [(7, .c (.int .i64)), (8, .c (.int .i64))], []⟩
abbrev outs13 : List Vt := [.c (.bool)]
abbrev mouts13 : List Mt := []
abbrev outs5 : List Vt := [.c (.bool)]
abbrev mouts5 : List Mt := []
def HH : Hints where
  ro := look true [(23, false),
    (22, false)]
  keep := look2 false []
  tmp := look false [(14, true),
    (28, true),
    (15, true),
    (6, true),
    (19, true),
    (9, true),
    (40, true),
    (29, true),
    (30, true),
    (16, true),
    (32, true),
    (20, true),
    (11, true),
    (7, true),
    (33, true),
    (34, true),
    (35, true),
    (24, true),
    (42, true),
    (36, true),
    (37, true),
    (25, true),
    (38, true),
    (39, true),
    (26, true),
    (27, true),
    (13, true),
    (5, true)]
  own := look false [(21, true),
    (12, true)]
  outs := look [] [(14, outs14),
    (28, outs28),
    (15, outs15),
    (6, outs6),
    (21, outs21),
    (23, outs23),
    (22, outs22),
    (12, outs12),
    (19, outs19),
    (9, outs9),
    (40, outs40),
    (29, outs29),
    (30, outs30),
    (16, outs16),
    (32, outs32),
    (20, outs20),
    (11, outs11),
    (7, outs7),
    (33, outs33),
    (34, outs34),
    (35, outs35),
    (24, outs24),
    (42, outs42),
    (36, outs36),
    (37, outs37),
    (25, outs25),
    (38, outs38),
    (39, outs39),
    (26, outs26),
    (27, outs27),
    (13, outs13),
    (5, outs5)]
  mouts := look [] [(21, mouts21),
    (23, mouts23),
    (22, mouts22),
    (12, mouts12),
    (33, mouts33),
    (35, mouts35),
    (38, mouts38)]
  live := look2 ⟨0, [], []⟩ [(28, 0, S28_0),
    (12, 0, S12_0),
    (12, 2, S12_2),
    (19, 0, S19_0),
    (29, 0, S29_0),
    (30, 0, S30_0),
    (32, 0, S32_0),
    (35, 0, S35s0_0),
    (42, 0, S42_0),
    (36, 0, S36_0),
    (37, 0, S37_0),
    (25, 0, S25_0),
    (27, 0, S27_0)]
  exits := look2 [] [(28, 0, [(.ret, S28_0_r), (.exit 0, S28_0_e0)]),
    (12, 0, [(.exit 0, S12_0_e0)]),
    (12, 2, [(.exit 2, S12_2_e2)]),
    (19, 0, [(.ret, S19_0_r), (.exit 0, S19_0_e0)]),
    (29, 0, [(.ret, S29_0_r), (.exit 0, S29_0_e0)]),
    (30, 0, [(.exit 0, S30_0_e0)]),
    (32, 0, [(.exit 0, S32_0_e0)]),
    (35, 0, [(.exit 0, S35s0_0_e0)]),
    (42, 0, [(.ret, S42_0_r), (.exit 0, S42_0_e0)]),
    (36, 0, [(.ret, S36_0_r), (.exit 0, S36_0_e0)]),
    (37, 0, [(.exit 0, S37_0_e0)]),
    (25, 0, [(.exit 0, S25_0_e0)]),
    (27, 0, [(.exit 0, S27_0_e0)])]
  frz := look false [(39, true)]
  thaw := look false [(45, true)]
def symL : Nat → Nat → Bool := look2 false [(12, 0, true),
    (25, 0, true),
    (27, 0, true),
    (29, 0, true),
    (32, 0, true),
    (35, 0, true),
    (36, 0, true)]
end Go.Proofs.Ytceaambiagobbaa.Am
