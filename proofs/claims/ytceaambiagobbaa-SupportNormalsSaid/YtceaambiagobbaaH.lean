/- PRINTED by amprint.py: the shapes that the abstract machine is told. -/
import Derived.Test.YtceaambiagobbaaAmW
import Derived.Test.YtceaambiagobbaaProg
set_option linter.unusedVariables false
namespace Go.Proofs.Ytceaambiagobbaa.Am
open Go Go.Proofs

def look {α : Type} (d : α) : List (Nat × α) → Nat → α
  | [], _ => d
  | (k, x) :: r, f => bif Nat.beq k f then x else look d r f
def look2 {α : Type} (d : α) : List (Nat × Nat × α) → Nat → Nat → α
  | [], _, _ => d
  | (k, b, x) :: r, f, g => bif Nat.beq k f && Nat.beq b g then x else look2 d r f g
/-- the body of the loop in block b -/
def loopIn (b : Nat) : Nat → Code → Option Code
  | bid, .seq x y => match loopIn b bid x with | some c => some c | none => loopIn b bid y
  | bid, .cond _ x y => match loopIn b bid x with | some c => some c | none => loopIn b bid y
  | _, .block i c => loopIn b i c
  | bid, .loop c => bif Nat.beq bid b then some c else loopIn b bid c
  | _, _ => none
def loopOf (fn : Func) (b : Nat) : Code := match fn.body with
  | some c => match loopIn b 0 c with | some c => c | none => .skip
  | none => .skip

abbrev outs14 : List Vt := [.c (.int .i64)]
abbrev mouts14 : List Mt := []
abbrev outs28 : List Vt := [.c (.bool)]
abbrev mouts28 : List Mt := []
abbrev S28_0 : StTy := ⟨23, [(1, .c (.int .i64)), (2, .c (.ptr 0 0 0)), (5, .c (.int .i64))], [.cells true [.int .i64, .int .i64, .int .i64]]⟩
abbrev S28_0_e0 : StTy := ⟨23, [], []⟩
abbrev S28_0_r : StTy := ⟨23, [(4, .c (.bool))], []⟩
abbrev outs15 : List Vt := [.c (.bool)]
abbrev mouts15 : List Mt := []
abbrev outs6 : List Vt := [.agg [.int .i64, .int .i64, .int .i64]]
abbrev mouts6 : List Mt := []
abbrev outs19 : List Vt := [.c (.bool)]
abbrev mouts19 : List Mt := []
abbrev S19_0 : StTy := ⟨16, [(5, .agg [.int .i64, .int .i64, .int .i64]), (6, .c (.int .i64))], []⟩
abbrev S19_0_e0 : StTy := ⟨16, [], []⟩
abbrev S19_0_r : StTy := ⟨16, [(2, .c (.bool))], []⟩
abbrev outs9 : List Vt := [.c (.bool)]
abbrev mouts9 : List Mt := []
abbrev outs40 : List Vt := [.c (.bool)]
abbrev mouts40 : List Mt := []
abbrev outs29 : List Vt := [.c (.bool)]
abbrev mouts29 : List Mt := []
abbrev S29_0 : StTy := ⟨36, [(0, .c (.sl 6)), (5, .c (.sl 6)), (6, .c (.int .i64)), (7, .c (.int .i64))], []⟩
abbrev S29_0_e0 : StTy := ⟨36, [(0, .c (.sl 6))], []⟩
abbrev S29_0_r : StTy := ⟨36, [(2, .c (.bool))], []⟩
abbrev outs30 : List Vt := [.c (.int .i64), .c (.int .i64)]
abbrev mouts30 : List Mt := []
abbrev S30_0 : StTy := ⟨42, [(2, .c (.ptr 0 0 0)), (6, .c (.int .i64)), (7, .c (.int .i64)), (12, .agg [.int .i64, .int .i64, .int .i64, .int .i64, .int .i64, .int .i64]), (13, .c (.int .i64))], [.cells true [.int .i64, .int .i64, .int .i64]]⟩
abbrev S30_0_e0 : StTy := ⟨42, [(6, .c (.int .i64)), (7, .c (.int .i64))], []⟩
abbrev outs16 : List Vt := [.c (.int .i64), .c (.int .i64)]
abbrev mouts16 : List Mt := []
abbrev outs32 : List Vt := [.c (.int .i64)]
abbrev mouts32 : List Mt := []
abbrev S32_0 : StTy := ⟨24, [(0, .c (.int .i64)), (3, .c (.int .i64)), (8, .c (.int .i64))], []⟩
abbrev S32_0_e0 : StTy := ⟨24, [(3, .c (.int .i64))], []⟩
abbrev outs20 : List Vt := [.c (.int .i64)]
abbrev mouts20 : List Mt := []
abbrev outs11 : List Vt := [.c (.int .i64)]
abbrev mouts11 : List Mt := []
abbrev outs7 : List Vt := [.c (.bool)]
abbrev mouts7 : List Mt := []
abbrev outs10 : List Vt := [.agg [.int .i64, .int .i64, .int .i64], .c (.bool)]
abbrev mouts10 : List Mt := []
abbrev S10_0 : StTy := ⟨29, [(1, .c (.ptr 0 0 0)), (2, .c (.ptr 1 0 0)), (4, .c (.ptr 2 0 0)), (5, .c (.int .i64))], [.cells true [.int .i64, .int .i64, .int .i64], .cells true [.int .i64, .int .i64, .int .i64], .cells true [.int .i64, .int .i64, .int .i64]]⟩
abbrev S10_0_e0 : StTy := ⟨29, [(2, .c (.ptr 0 0 0)), (4, .c (.ptr 1 0 0))], [.cells true [.int .i64, .int .i64, .int .i64], .cells true [.int .i64, .int .i64, .int .i64]]⟩
abbrev S10_2 : StTy := ⟨29, [(1, .c (.ptr 0 0 0)), (2, .c (.ptr 1 0 0)), (4, .c (.ptr 2 0 0)), (5, .c (.int .i64)), (13, .c (.int .i64))], [.cells true [.int .i64, .int .i64, .int .i64], .cells true [.int .i64, .int .i64, .int .i64], .cells true [.int .i64, .int .i64, .int .i64]]⟩
abbrev S10_2_e2 : StTy := ⟨29, [(1, .c (.ptr 0 0 0)), (2, .c (.ptr 1 0 0)), (4, .c (.ptr 2 0 0)), (5, .c (.int .i64))], [.cells true [.int .i64, .int .i64, .int .i64], .cells true [.int .i64, .int .i64, .int .i64], .cells true [.int .i64, .int .i64, .int .i64]]⟩
abbrev outs17 : List Vt := [.agg [.int .i64, .int .i64, .int .i64], .c (.bool)]
abbrev mouts17 : List Mt := []
abbrev S17_0 : StTy := ⟨28, [(1, .c (.ptr 0 0 0)), (2, .c (.ptr 1 0 0)), (4, .c (.int .i64))], [.cells true [.int .i64, .int .i64, .int .i64], .cells true [.int .i64, .int .i64, .int .i64]]⟩
abbrev S17_0_r : StTy := ⟨28, [(2, .c (.ptr 0 0 0)), (3, .c (.bool))], [.cells true [.int .i64, .int .i64, .int .i64]]⟩
abbrev outs41 : List Vt := [.c (.int .i64)]
abbrev mouts41 : List Mt := []
abbrev S41_0 : StTy := ⟨26, [(0, .c (.int .i64)), (3, .c (.int .i64)), (4, .c (.int .i64))], []⟩
abbrev S41_0_e0 : StTy := ⟨26, [(3, .c (.int .i64))], []⟩
abbrev outs31 : List Vt := [.c (.int .i64)]
abbrev mouts31 : List Mt := []
abbrev outs18 : List Vt := [.c (.int .i64)]
abbrev mouts18 : List Mt := []
abbrev outs8 : List Vt := [.c (.bool)]
abbrev mouts8 : List Mt := []
abbrev outs3 : List Vt := [.c (.bool)]
abbrev mouts3 : List Mt := []
def HH : Hints where
  ro := look true []
  keep := look2 false []
  tmp := look false [(14, true),
    (28, true),
    (15, true),
    (6, true),
    (19, true),
    (9, true),
    (40, true),
    (29, true),
    (30, true),
    (16, true),
    (32, true),
    (20, true),
    (11, true),
    (7, true),
    (10, true),
    (17, true),
    (41, true),
    (31, true),
    (18, true),
    (8, true),
    (3, true)]
  own := look false []
  outs := look [] [(14, outs14),
    (28, outs28),
    (15, outs15),
    (6, outs6),
    (19, outs19),
    (9, outs9),
    (40, outs40),
    (29, outs29),
    (30, outs30),
    (16, outs16),
    (32, outs32),
    (20, outs20),
    (11, outs11),
    (7, outs7),
    (10, outs10),
    (17, outs17),
    (41, outs41),
    (31, outs31),
    (18, outs18),
    (8, outs8),
    (3, outs3)]
  mouts := look [] []
  live := look2 ⟨0, [], []⟩ [(28, 0, S28_0),
    (19, 0, S19_0),
    (29, 0, S29_0),
    (30, 0, S30_0),
    (32, 0, S32_0),
    (10, 0, S10_0),
    (10, 2, S10_2),
    (17, 0, S17_0),
    (41, 0, S41_0)]
  exits := look2 [] [(28, 0, [(.ret, S28_0_r), (.exit 0, S28_0_e0)]),
    (19, 0, [(.ret, S19_0_r), (.exit 0, S19_0_e0)]),
    (29, 0, [(.ret, S29_0_r), (.exit 0, S29_0_e0)]),
    (30, 0, [(.exit 0, S30_0_e0)]),
    (32, 0, [(.exit 0, S32_0_e0)]),
    (10, 0, [(.exit 0, S10_0_e0)]),
    (10, 2, [(.exit 2, S10_2_e2)]),
    (17, 0, [(.ret, S17_0_r)]),
    (41, 0, [(.exit 0, S41_0_e0)])]
def symL : Nat → Nat → Bool := look2 false [(10, 0, true),
    (17, 0, true),
    (29, 0, true),
    (32, 0, true),
    (41, 0, true)]
end Go.Proofs.Ytceaambiagobbaa.Am
