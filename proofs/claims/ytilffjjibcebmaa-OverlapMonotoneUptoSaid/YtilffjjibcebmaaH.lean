/- PRINTED by amprint.py: the shapes that the abstract machine is told. -/
import Derived.Test.YtilffjjibcebmaaAmW
import Derived.Test.YtilffjjibcebmaaProg
set_option linter.unusedVariables false
namespace Go.Proofs.Ytilffjjibcebmaa.Am
open Go Go.Proofs

def look {α : Type} (d : α) : List (Nat × α) → Nat → α
  | [], _ => d
  | (k, x) :: r, f => bif Nat.beq k f then x else look d r f
def look2 {α : Type} (d : α) : List (Nat × Nat × α) → Nat → Nat → α
  | [], _, _ => d
  | (k, b, x) :: r, f, g => bif Nat.beq k f && Nat.beq b g then x else look2 d r f g
/-- the body of the loop in block b -/
def loopIn (b : Nat) : Nat → Code → Option Code
  | bid, .seq x y => match loopIn b bid x with | some c => some c | none => loopIn b bid y
  | bid, .cond _ x y => match loopIn b bid x with | some c => some c | none => loopIn b bid y
  | _, .block i c => loopIn b i c
  | bid, .loop c => bif Nat.beq bid b then some c else loopIn b bid c
  | _, _ => none
def loopOf (fn : Func) (b : Nat) : Code := match fn.body with
  | some c => match loopIn b 0 c with | some c => c | none => .skip
  | none => .skip

abbrev outs26 : List Vt := [.c (.ptr 0 0 0)]
abbrev mouts26 : List Mt := [.cells true [.sl 1, .int .i64]]
abbrev outs19 : List Vt := [.c (.int .i64)]
abbrev mouts19 : List Mt := []
abbrev outs28 : List Vt := [.c (.int .i64)]
abbrev mouts28 : List Mt := [.cells true [.sl 1, .int .i64]]
abbrev outs27 : List Vt := [.c (.int .i64)]
abbrev mouts27 : List Mt := [.cells true [.sl 1, .int .i64]]
abbrev outs10 : List Vt := [.c (.sl 6)]
abbrev mouts10 : List Mt := []
abbrev S10_0 : StTy := ⟨60, [(1, .c (.int .i64)), (5, .c (.ptr 0 0 0)), (6, .c (.ptr 1 0 0)), (7, .c (.fs 2)), (8, .c (.int .i64))], [.cells true [.sl 1, .int .i64], .cells true [.int .i64, .int .i64, .int .i64], .arr 6 true]⟩
abbrev S10_0_e0 : StTy := ⟨60, [(7, .c (.fs 0))], [.arr 6 true]⟩
abbrev S10_2 : StTy := ⟨60, [(1, .c (.int .i64)), (5, .c (.ptr 0 0 0)), (6, .c (.ptr 1 0 0)), (7, .c (.fs 2)), (8, .c (.int .i64)), (9, .c (.ptr 3 0 0)), (10, .c (.int .i64))], [.cells true [.sl 1, .int .i64], .cells true [.int .i64, .int .i64, .int .i64], .arr 6 true, .cells true [.int .i64, .int .i64, .int .i64, .int .i64, .int .i64, .int .i64]]⟩
abbrev S10_2_e2 : StTy := ⟨60, [(1, .c (.int .i64)), (5, .c (.ptr 0 0 0)), (6, .c (.ptr 1 0 0)), (7, .c (.fs 2)), (8, .c (.int .i64)), (9, .c (.ptr 3 0 0))], [.cells true [.sl 1, .int .i64], .cells true [.int .i64, .int .i64, .int .i64], .arr 6 true, .cells true [.int .i64, .int .i64, .int .i64, .int .i64, .int .i64, .int .i64]]⟩
abbrev outs15 : List Vt := [.c (.fs 0)]
abbrev mouts15 : List Mt := [.arr 1 true]
abbrev S15_0 : StTy := ⟨31, [(0, .c (.int .i64)), (5, .c (.ptr 0 0 0)), (6, .c (.fs 1)), (7, .c (.int .i64))], [.cells true [.sl 1, .int .i64], .arr 1 true]⟩
abbrev S15_0_e0 : StTy := ⟨31, [(0, .c (.int .i64)), (5, .c (.ptr 0 0 0)), (6, .c (.fs 1))], [.cells true [.sl 1, .int .i64], .arr 1 true]⟩
abbrev outs22 : List Vt := [.c (.int .i64)]
abbrev mouts22 : List Mt := []
abbrev S22_0 : StTy := ⟨18, [(0, .c (.sl 1)), (3, .c (.int .i64)), (4, .c (.int .i64))], []⟩
abbrev S22_0_e0 : StTy := ⟨18, [(3, .c (.int .i64))], []⟩
abbrev outs11 : List Vt := [.c (.sl 1), .c (.sl 1)]
abbrev mouts11 : List Mt := []
abbrev outs14 : List Vt := [.c (.int .i64)]
abbrev mouts14 : List Mt := []
abbrev outs46 : List Vt := [.c (.bool)]
abbrev mouts46 : List Mt := []
abbrev outs41 : List Vt := [.c (.bool)]
abbrev mouts41 : List Mt := []
abbrev S41_0 : StTy := ⟨36, [(0, .c (.sl 6)), (5, .c (.sl 6)), (6, .c (.int .i64)), (7, .c (.int .i64))], []⟩
abbrev S41_0_e0 : StTy := ⟨36, [(0, .c (.sl 6))], []⟩
abbrev S41_0_r : StTy := ⟨36, [(2, .c (.bool))], []⟩
abbrev outs32 : List Vt := [.agg [.int .i64, .int .i64, .int .i64, .int .i64, .int .i64, .int .i64], .c (.int .i64), .c (.bool)]
abbrev mouts32 : List Mt := []
abbrev S32_0 : StTy := ⟨86, [(0, .c (.sl 6)), (4, .c (.ptr 0 0 0)), (7, .c (.ptr 1 0 0)), (8, .c (.int .i64)), (23, .c (.sl 1)), (24, .c (.int .i64)), (25, .c (.int .i64))], [.cells true [.int .i64, .int .i64, .int .i64, .int .i64, .int .i64, .int .i64], .cells true [.int .i64, .int .i64, .int .i64, .int .i64, .int .i64, .int .i64]]⟩
abbrev S32_0_e0 : StTy := ⟨86, [(4, .c (.ptr 0 0 0)), (7, .c (.ptr 1 0 0)), (8, .c (.int .i64))], [.cells true [.int .i64, .int .i64, .int .i64, .int .i64, .int .i64, .int .i64], .cells true [.int .i64, .int .i64, .int .i64, .int .i64, .int .i64, .int .i64]]⟩
abbrev S32_0_r : StTy := ⟨86, [(4, .c (.ptr 0 0 0)), (5, .c (.int .i64)), (6, .c (.bool))], [.cells true [.int .i64, .int .i64, .int .i64, .int .i64, .int .i64, .int .i64]]⟩
abbrev S32_2 : StTy := ⟨86, [(0, .c (.sl 6)), (4, .c (.ptr 0 0 0)), (7, .c (.ptr 1 0 0)), (8, .c (.int .i64)), (9, .c (.int .i64)), (10, .c (.int .i64)), (23, .c (.sl 1)), (24, .c (.int .i64)), (25, .c (.int .i64)), (40, .c (.int .i64))], [.cells true [.int .i64, .int .i64, .int .i64, .int .i64, .int .i64, .int .i64], .cells true [.int .i64, .int .i64, .int .i64, .int .i64, .int .i64, .int .i64]]⟩
abbrev S32_2_e2 : StTy := ⟨86, [(0, .c (.sl 6)), (4, .c (.ptr 0 0 0)), (7, .c (.ptr 1 0 0)), (8, .c (.int .i64)), (23, .c (.sl 1)), (24, .c (.int .i64)), (25, .c (.int .i64))], [.cells true [.int .i64, .int .i64, .int .i64, .int .i64, .int .i64, .int .i64], .cells true [.int .i64, .int .i64, .int .i64, .int .i64, .int .i64, .int .i64]]⟩
abbrev outs33 : List Vt := [.c (.int .i64)]
abbrev mouts33 : List Mt := []
abbrev S33_0 : StTy := ⟨19, [(3, .c (.int .i64)), (6, .c (.sl 1)), (7, .c (.int .i64)), (8, .c (.int .i64))], []⟩
abbrev S33_0_e0 : StTy := ⟨19, [(3, .c (.int .i64))], []⟩
abbrev outs16 : List Vt := [.c (.int .i64), .c (.bool)]
abbrev mouts16 : List Mt := []
abbrev S16_0 : StTy := ⟨109, [(14, .c (.ptr 0 0 0)), (15, .c (.int .i64)), (17, .c (.ptr 1 0 0)), (20, .c (.int .i64)), (21, .c (.int .i64)), (71, .c (.int .i64))], [.cells true [.int .i64, .int .i64, .int .i64, .int .i64, .int .i64, .int .i64], .cells true [.int .i64, .int .i64, .int .i64, .int .i64, .int .i64, .int .i64]]⟩
abbrev S16_0_e0 : StTy := ⟨109, [(21, .c (.int .i64))], []⟩
abbrev S16_0_r : StTy := ⟨109, [(12, .c (.int .i64)), (13, .c (.bool))], []⟩
abbrev outs17 : List Vt := [.c (.bool)]
abbrev mouts17 : List Mt := []
abbrev outs52 : List Vt := [.c (.int .i64)]
abbrev mouts52 : List Mt := []
abbrev outs44 : List Vt := [.agg [.int .i64, .int .i64]]
abbrev mouts44 : List Mt := []
abbrev outs37 : List Vt := [.agg [.int .i64, .int .i64, .int .i64, .int .i64, .int .i64, .int .i64]]
abbrev mouts37 : List Mt := []
abbrev outs29 : List Vt := [.c (.sl 6)]
abbrev mouts29 : List Mt := []
abbrev S29_0 : StTy := ⟨20, [(0, .c (.sl 3)), (3, .c (.fs 0)), (4, .c (.int .i64))], [.arr 6 true]⟩
abbrev S29_0_e0 : StTy := ⟨20, [(3, .c (.fs 0))], [.arr 6 true]⟩
abbrev outs12 : List Vt := [.c (.bool)]
abbrev mouts12 : List Mt := []
abbrev outs34 : List Vt := [.agg [.int .i64, .int .i64]]
abbrev mouts34 : List Mt := []
abbrev outs18 : List Vt := [.c (.sl 6)]
abbrev mouts18 : List Mt := []
abbrev S18_0 : StTy := ⟨38, [(0, .c (.sl 6)), (5, .c (.ptr 0 0 0)), (6, .c (.fs 1)), (7, .c (.int .i64))], [.cells true [.sl 1, .int .i64], .arr 6 true]⟩
abbrev S18_0_e0 : StTy := ⟨38, [(6, .c (.fs 0))], [.arr 6 true]⟩
abbrev S18_2 : StTy := ⟨38, [(0, .c (.sl 6)), (5, .c (.ptr 0 0 0)), (6, .c (.fs 1)), (7, .c (.int .i64)), (8, .c (.ptr 2 0 0)), (9, .c (.int .i64))], [.cells true [.sl 1, .int .i64], .arr 6 true, .cells true [.int .i64, .int .i64, .int .i64, .int .i64, .int .i64, .int .i64]]⟩
abbrev S18_2_e2 : StTy := ⟨38, [(0, .c (.sl 6)), (5, .c (.ptr 0 0 0)), (6, .c (.fs 1)), (7, .c (.int .i64)), (8, .c (.ptr 2 0 0))], [.cells true [.sl 1, .int .i64], .arr 6 true, .cells true [.int .i64, .int .i64, .int .i64, .int .i64, .int .i64, .int .i64]]⟩
abbrev outs5 : List Vt := [.c (.bool)]
abbrev mouts5 : List Mt := []
def HH : Hints where
  ro := look true [(28, false),
    (27, false)]
  keep := look2 false []
  tmp := look false [(19, true),
    (22, true),
    (14, true),
    (46, true),
    (41, true),
    (32, true),
    (33, true),
    (16, true),
    (17, true),
    (52, true),
    (44, true),
    (37, true),
    (12, true),
    (34, true),
    (5, true)]
  own := look false [(26, true),
    (15, true)]
  outs := look [] [(26, outs26),
    (19, outs19),
    (28, outs28),
    (27, outs27),
    (10, outs10),
    (15, outs15),
    (22, outs22),
    (11, outs11),
    (14, outs14),
    (46, outs46),
    (41, outs41),
    (32, outs32),
    (33, outs33),
    (16, outs16),
    (17, outs17),
    (52, outs52),
    (44, outs44),
    (37, outs37),
    (29, outs29),
    (12, outs12),
    (34, outs34),
    (18, outs18),
    (5, outs5)]
  mouts := look [] [(26, mouts26),
    (28, mouts28),
    (27, mouts27),
    (15, mouts15)]
  live := look2 ⟨0, [], []⟩ [(10, 0, S10_0),
    (10, 2, S10_2),
    (15, 0, S15_0),
    (22, 0, S22_0),
    (41, 0, S41_0),
    (32, 0, S32_0),
    (32, 2, S32_2),
    (33, 0, S33_0),
    (16, 0, S16_0),
    (29, 0, S29_0),
    (18, 0, S18_0),
    (18, 2, S18_2)]
  exits := look2 [] [(10, 0, [(.exit 0, S10_0_e0)]),
    (10, 2, [(.exit 2, S10_2_e2)]),
    (15, 0, [(.exit 0, S15_0_e0)]),
    (22, 0, [(.exit 0, S22_0_e0)]),
    (41, 0, [(.ret, S41_0_r), (.exit 0, S41_0_e0)]),
    (32, 0, [(.ret, S32_0_r), (.exit 0, S32_0_e0)]),
    (32, 2, [(.exit 2, S32_2_e2)]),
    (33, 0, [(.exit 0, S33_0_e0)]),
    (16, 0, [(.ret, S16_0_r), (.exit 0, S16_0_e0)]),
    (29, 0, [(.exit 0, S29_0_e0)]),
    (18, 0, [(.exit 0, S18_0_e0)]),
    (18, 2, [(.exit 2, S18_2_e2)])]
def symL : Nat → Nat → Bool := look2 false [(10, 0, true),
    (15, 0, true),
    (18, 0, true),
    (22, 0, true),
    (29, 0, true),
    (32, 0, true),
    (33, 0, true),
    (41, 0, true)]
end Go.Proofs.Ytilffjjibcebmaa.Am
