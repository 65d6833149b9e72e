/- PRINTED by amprint.py: the shapes that the abstract machine is told. -/
import Derived.Test.YtceaambiagobbaaAmW
import Derived.Test.YtceaambiagobbaaProg
set_option linter.unusedVariables false
namespace Go.Proofs.Ytceaambiagobbaa.Am
open Go Go.Proofs

def look {α : Type} (d : α) : List (Nat × α) → Nat → α
  | [], _ => d
  | (k, x) :: r, f => bif Nat.beq k f then x else look d r f
def look2 {α : Type} (d : α) : List (Nat × Nat × α) → Nat → Nat → α
  | [], _, _ => d
  | (k, b, x) :: r, f, g => bif Nat.beq k f && Nat.beq b g then x else look2 d r f g
/-- the body of the loop in block b -/
def loopIn (b : Nat) : Nat → Code → Option Code
  | bid, .seq x y => match loopIn b bid x with | some c => some c | none => loopIn b bid y
  | bid, .cond _ x y => match loopIn b bid x with | some c => some c | none => loopIn b bid y
  | _, .block i c => loopIn b i c
  | bid, .loop c => bif Nat.beq bid b then some c else loopIn b bid c
  | _, _ => none
def loopOf (fn : Func) (b : Nat) : Code := match fn.body with
  | some c => match loopIn b 0 c with | some c => c | none => .skip
  | none => .skip

abbrev outs19 : List Vt := [.c (.bool)]
abbrev mouts19 : List Mt := []
abbrev S19_0 : StTy := ⟨16, [(5, .agg [.int .i64, .int .i64, .int .i64]), (6, .c (.int .i64))], []⟩
abbrev S19_0_e0 : StTy := ⟨16, [], []⟩
abbrev S19_0_r : StTy := ⟨16, [(2, .c (.bool))], []⟩
abbrev outs10 : List Vt := [.agg [.int .i64, .int .i64, .int .i64], .c (.bool)]
abbrev mouts10 : List Mt := []
abbrev S10_0 : StTy := ⟨29, [(1, .c (.ptr 0 0 0)), (2, .c (.ptr 1 0 0)), (4, .c (.ptr 2 0 0)), (5, .c (.int .i64))], [.cells true [.int .i64, .int .i64, .int .i64], .cells true [.int .i64, .int .i64, .int .i64], .cells true [.int .i64, .int .i64, .int .i64]]⟩
abbrev S10_0_e0 : StTy := ⟨29, [(2, .c (.ptr 0 0 0)), (4, .c (.ptr 1 0 0))], [.cells true [.int .i64, .int .i64, .int .i64], .cells true [.int .i64, .int .i64, .int .i64]]⟩
abbrev S10_2 : StTy := ⟨29, [(1, .c (.ptr 0 0 0)), (2, .c (.ptr 1 0 0)), (4, .c (.ptr 2 0 0)), (5, .c (.int .i64)), (13, .c (.int .i64))], [.cells true [.int .i64, .int .i64, .int .i64], .cells true [.int .i64, .int .i64, .int .i64], .cells true [.int .i64, .int .i64, .int .i64]]⟩
abbrev S10_2_e2 : StTy := ⟨29, [(1, .c (.ptr 0 0 0)), (2, .c (.ptr 1 0 0)), (4, .c (.ptr 2 0 0)), (5, .c (.int .i64))], [.cells true [.int .i64, .int .i64, .int .i64], .cells true [.int .i64, .int .i64, .int .i64], .cells true [.int .i64, .int .i64, .int .i64]]⟩
abbrev outs9 : List Vt := [.c (.bool)]
abbrev mouts9 : List Mt := []
abbrev outs40 : List Vt := [.c (.bool)]
abbrev mouts40 : List Mt := []
abbrev outs29 : List Vt := [.c (.bool)]
abbrev mouts29 : List Mt := []
abbrev S29_0 : StTy := ⟨36, [(0, .c (.sl 6)), (5, .c (.sl 6)), (6, .c (.int .i64)), (7, .c (.int .i64))], []⟩
abbrev S29_0_e0 : StTy := ⟨36, [(0, .c (.sl 6))], []⟩
abbrev S29_0_r : StTy := ⟨36, [(2, .c (.bool))], []⟩
abbrev outs30 : List Vt := [.c (.int .i64), .c (.int .i64)]
abbrev mouts30 : List Mt := []
abbrev S30_0 : StTy := ⟨42, [(2, .c (.ptr 0 0 0)), (6, .c (.int .i64)), (7, .c (.int .i64)), (12, .agg [.int .i64, .int .i64, .int .i64, .int .i64, .int .i64, .int .i64]), (13, .c (.int .i64))], [.cells true [.int .i64, .int .i64, .int .i64]]⟩
abbrev S30_0_e0 : StTy := ⟨42, [(6, .c (.int .i64)), (7, .c (.int .i64))], []⟩
abbrev outs16 : List Vt := [.c (.int .i64), .c (.int .i64)]
abbrev mouts16 : List Mt := []
abbrev outs32 : List Vt := [.c (.int .i64)]
abbrev mouts32 : List Mt := []
abbrev S32_0 : StTy := ⟨24, [(0, .c (.int .i64)), (3, .c (.int .i64)), (8, .c (.int .i64))], []⟩
abbrev S32_0_e0 : StTy := ⟨24, [(3, .c (.int .i64))], []⟩
abbrev outs20 : List Vt := [.c (.int .i64)]
abbrev mouts20 : List Mt := []
abbrev outs11 : List Vt := [.c (.int .i64)]
abbrev mouts11 : List Mt := []
abbrev outs7 : List Vt := [.c (.bool)]
abbrev mouts7 : List Mt := []
abbrev outs4 : List Vt := [.c (.bool)]
abbrev mouts4 : List Mt := []
abbrev S4_0 : StTy := ⟨137, [(2, .c (.ptr 0 0 0)), (5, .c (.ptr 1 0 0)), (6, .c (.bool)), (7, .c (.ptr 2 0 0)), (8, .c (.bool)), (9, .c (.int .i64))], [.cells true [.int .i64, .int .i64, .int .i64], .cells true [.int .i64, .int .i64, .int .i64], .cells true [.int .i64, .int .i64, .int .i64]]⟩
abbrev S4_0_e0 : StTy := ⟨137, [(5, .c (.ptr 0 0 0)), (6, .c (.bool)), (7, .c (.ptr 1 0 0)), (8, .c (.bool))], [.cells true [.int .i64, .int .i64, .int .i64], .cells true [.int .i64, .int .i64, .int .i64]]⟩
abbrev S4_0_r : StTy := ⟨137, [(4, .c (.bool))], []⟩
def HH : Hints where
  ro := look true []
  keep := look2 false []
  tmp := look false [(19, true),
    (10, true),
    (9, true),
    (40, true),
    (29, true),
    (30, true),
    (16, true),
    (32, true),
    (20, true),
    (11, true),
    (7, true),
    (4, true)]
  own := look false []
  outs := look [] [(19, outs19),
    (10, outs10),
    (9, outs9),
    (40, outs40),
    (29, outs29),
    (30, outs30),
    (16, outs16),
    (32, outs32),
    (20, outs20),
    (11, outs11),
    (7, outs7),
    (4, outs4)]
  mouts := look [] []
  live := look2 ⟨0, [], []⟩ [(19, 0, S19_0),
    (10, 0, S10_0),
    (10, 2, S10_2),
    (29, 0, S29_0),
    (30, 0, S30_0),
    (32, 0, S32_0),
    (4, 0, S4_0)]
  exits := look2 [] [(19, 0, [(.ret, S19_0_r), (.exit 0, S19_0_e0)]),
    (10, 0, [(.exit 0, S10_0_e0)]),
    (10, 2, [(.exit 2, S10_2_e2)]),
    (29, 0, [(.ret, S29_0_r), (.exit 0, S29_0_e0)]),
    (30, 0, [(.exit 0, S30_0_e0)]),
    (32, 0, [(.exit 0, S32_0_e0)]),
    (4, 0, [(.ret, S4_0_r), (.exit 0, S4_0_e0)])]
def symL : Nat → Nat → Bool := look2 false [(10, 0, true),
    (29, 0, true),
    (32, 0, true),
    (4, 0, true)]
end Go.Proofs.Ytceaambiagobbaa.Am
