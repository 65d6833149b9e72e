/- PRINTED by amprint.py: the shapes that the abstract machine is told. -/
import Derived.Test.YtfpdjpleplhcgaaAmLim
import Derived.Test.YtfpdjpleplhcgaaProg
set_option linter.unusedVariables false
namespace Go.Proofs.Ytfpdjpleplhcgaa.Am
open Go Go.Proofs

def look {α : Type} (d : α) : List (Nat × α) → Nat → α
  | [], _ => d
  | (k, x) :: r, f => bif Nat.beq k f then x else look d r f
def look2 {α : Type} (d : α) : List (Nat × Nat × α) → Nat → Nat → α
  | [], _, _ => d
  | (k, b, x) :: r, f, g => bif Nat.beq k f && Nat.beq b g then x else look2 d r f g
/-- the body of the loop in block b -/
def loopIn (b : Nat) : Nat → Code → Option Code
  | bid, .seq x y => match loopIn b bid x with | some c => some c | none => loopIn b bid y
  | bid, .cond _ x y => match loopIn b bid x with | some c => some c | none => loopIn b bid y
  | _, .block i c => loopIn b i c
  | bid, .loop c => bif Nat.beq bid b then some c else loopIn b bid c
  | _, _ => none
def loopOf (fn : Func) (b : Nat) : Code := match fn.body with
  | some c => match loopIn b 0 c with | some c => c | none => .skip
  | none => .skip

abbrev outs41 : List Vt := [.c (.int .i64)]
abbrev mouts41 : List Mt := []
abbrev outs163 : List Vt := [.c (.bool)]
abbrev mouts163 : List Mt := []
abbrev S163_0 : StTy := ⟨23, [(1, .c (.int .i64)), (2, .c (.ptr 0 0 0)), (5, .c (.int .i64))], [.cells true [.int .i64, .int .i64, .int .i64]]⟩
abbrev S163_0_e0 : StTy := ⟨23, [], []⟩
abbrev S163_0_r : StTy := ⟨23, [(4, .c (.bool))], []⟩
abbrev outs109 : List Vt := [.c (.bool)]
abbrev mouts109 : List Mt := []
abbrev outs53 : List Vt := [.agg [.int .i64, .int .i64, .int .i64]]
abbrev mouts53 : List Mt := []
abbrev outs90 : List Vt := [.c (.ptr 0 0 0)]
abbrev mouts90 : List Mt := [.cells true [.sl 1, .int .i64]]
abbrev outs93 : List Vt := [.c (.int .i64)]
abbrev mouts93 : List Mt := [.cells true [.sl 1, .int .i64]]
abbrev outs97 : List Vt := [.c (.int .i64)]
abbrev mouts97 : List Mt := [.cells true [.sl 1, .int .i64]]
abbrev outs34 : List Vt := [.c (.sl 6)]
abbrev mouts34 : List Mt := []
abbrev S34_0 : StTy := ⟨60, [(1, .c (.int .i64)), (5, .c (.ptr 0 0 0)), (6, .c (.ptr 1 0 0)), (7, .c (.fs 2)), (8, .c (.int .i64))], [.cells true [.sl 1, .int .i64], .cells true [.int .i64, .int .i64, .int .i64], .arr 6 true]⟩
abbrev S34_0_e0 : StTy := ⟨60, [(7, .c (.fs 0))], [.arr 6 true]⟩
abbrev S34_2 : StTy := ⟨60, [(1, .c (.int .i64)), (5, .c (.ptr 0 0 0)), (6, .c (.ptr 1 0 0)), (7, .c (.fs 2)), (8, .c (.int .i64)), (9, .c (.ptr 3 0 0)), (10, .c (.int .i64))], [.cells true [.sl 1, .int .i64], .cells true [.int .i64, .int .i64, .int .i64], .arr 6 true, .cells true [.int .i64, .int .i64, .int .i64, .int .i64, .int .i64, .int .i64]]⟩
abbrev S34_2_e2 : StTy := ⟨60, [(1, .c (.int .i64)), (5, .c (.ptr 0 0 0)), (6, .c (.ptr 1 0 0)), (7, .c (.fs 2)), (8, .c (.int .i64)), (9, .c (.ptr 3 0 0))], [.cells true [.sl 1, .int .i64], .cells true [.int .i64, .int .i64, .int .i64], .arr 6 true, .cells true [.int .i64, .int .i64, .int .i64, .int .i64, .int .i64, .int .i64]]⟩
abbrev outs102 : List Vt := [.c (.int .i64)]
abbrev mouts102 : List Mt := []
abbrev outs47 : List Vt := [.agg [.int .i64, .int .i64]]
abbrev mouts47 : List Mt := []
abbrev outs87 : List Vt := [.agg [.int .i64, .int .i64, .int .i64, .int .i64, .int .i64, .int .i64]]
abbrev mouts87 : List Mt := []
abbrev outs103 : List Vt := [.c (.bool)]
abbrev mouts103 : List Mt := []
abbrev outs162 : List Vt := [.agg [.int .i64, .int .i64]]
abbrev mouts162 : List Mt := []
abbrev outs104 : List Vt := [.agg [.int .i64, .int .i64]]
abbrev mouts104 : List Mt := []
abbrev outs86 : List Vt := [.agg [.int .i64, .int .i64, .int .i64, .int .i64, .int .i64, .int .i64]]
abbrev mouts86 : List Mt := []
abbrev outs119 : List Vt := [.c (.bool)]
abbrev mouts119 : List Mt := []
abbrev S119_0 : StTy := ⟨16, [(5, .agg [.int .i64, .int .i64, .int .i64]), (6, .c (.int .i64))], []⟩
abbrev S119_0_e0 : StTy := ⟨16, [], []⟩
abbrev S119_0_r : StTy := ⟨16, [(2, .c (.bool))], []⟩
abbrev outs75 : List Vt := [.c (.bool)]
abbrev mouts75 : List Mt := []
abbrev outs161 : List Vt := [.c (.bool)]
abbrev mouts161 : List Mt := []
abbrev outs99 : List Vt := [.c (.bool)]
abbrev mouts99 : List Mt := []
abbrev S99_0 : StTy := ⟨36, [(0, .c (.sl 6)), (5, .c (.sl 6)), (6, .c (.int .i64)), (7, .c (.int .i64))], []⟩
abbrev S99_0_e0 : StTy := ⟨36, [(0, .c (.sl 6))], []⟩
abbrev S99_0_r : StTy := ⟨36, [(2, .c (.bool))], []⟩
abbrev outs144 : List Vt := [.c (.int .i64), .c (.int .i64)]
abbrev mouts144 : List Mt := []
abbrev S144_0 : StTy := ⟨42, [(2, .c (.ptr 0 0 0)), (6, .c (.int .i64)), (7, .c (.int .i64)), (12, .agg [.int .i64, .int .i64, .int .i64, .int .i64, .int .i64, .int .i64]), (13, .c (.int .i64))], [.cells true [.int .i64, .int .i64, .int .i64]]⟩
abbrev S144_0_e0 : StTy := ⟨42, [(6, .c (.int .i64)), (7, .c (.int .i64))], []⟩
abbrev outs143 : List Vt := [.c (.int .i64)]
abbrev mouts143 : List Mt := [.cells true [.int .i64, .int .i64, .int .i64]]
abbrev outs145 : List Vt := [.c (.bool)]
abbrev mouts145 : List Mt := []
abbrev outs146 : List Vt := [.c (.int .i64), .c (.int .i64)]
abbrev mouts146 : List Mt := [.cells true [.int .i64, .int .i64, .int .i64]]
abbrev S146s0_0 : StTy := ⟨38, [(2, .c (.ptr 1 0 0)), (6, .c (.int .i64)), (7, .c (.int .i64)), (17, .c (.sl 6)), (18, .c (.int .i64)), (19, .c (.int .i64))], [.cells true [.int .i64, .int .i64, .int .i64], .cells false [.raw, .raw]]⟩
abbrev S146s0_0_e0 : StTy := ⟨38, [(6, .c (.int .i64)), (7, .c (.int .i64))], [.cells true [.int .i64, .int .i64, .int .i64]]⟩
abbrev outs84 : List Vt := [.c (.int .i64), .c (.int .i64), .c (.bool)]
abbrev mouts84 : List Mt := []
abbrev outs147 : List Vt := [.c (.int .i64)]
abbrev mouts147 : List Mt := [.cells true [.int .i64, .int .i64, .int .i64]]
abbrev outs148 : List Vt := [.c (.bool)]
abbrev mouts148 : List Mt := []
abbrev S146s1_0 : StTy := S146s0_0
abbrev S146s1_0_e0 : StTy := S146s0_0_e0
abbrev outs85 : List Vt := [.c (.int .i64), .c (.int .i64), .c (.bool)]
abbrev mouts85 : List Mt := []
abbrev outs110 : List Vt := [.c (.int .i64), .c (.int .i64)]
abbrev mouts110 : List Mt := []
abbrev outs170 : List Vt := [.c (.int .i64)]
abbrev mouts170 : List Mt := []
abbrev S170_0 : StTy := ⟨24, [(0, .c (.int .i64)), (3, .c (.int .i64)), (8, .c (.int .i64))], []⟩
abbrev S170_0_e0 : StTy := ⟨24, [(3, .c (.int .i64))], []⟩
abbrev outs120 : List Vt := [.c (.int .i64)]
abbrev mouts120 : List Mt := []
abbrev outs77 : List Vt := [.c (.int .i64)]
abbrev mouts77 : List Mt := []
abbrev outs54 : List Vt := [.c (.bool)]
abbrev mouts54 : List Mt := []
abbrev outs29 : List Vt := [.c (.bool)]
abbrev mouts29 : List Mt := []
abbrev S29_0 : StTy := ⟨137, [(9, .c (.ptr 0 0 0)), (11, .c (.ptr 1 0 0)), (12, .c (.sl 6)), (13, .c (.fs 2)), (14, .c (.int .i64))], [.cells true [.int .i64, .int .i64, .int .i64], .cells true [.int .i64, .int .i64, .int .i64], .arr 6 true]⟩
abbrev S29_0_e0 : StTy := ⟨137, [(9, .c (.ptr 0 0 0)), (11, .c (.ptr 1 0 0)), (12, .c (.sl 6)), (13, .c (.fs 2))], [.cells true [.int .i64, .int .i64, .int .i64], .cells true [.int .i64, .int .i64, .int .i64], .arr 6 true]⟩
def HH : Hints where
  ro := look true [(93, false),
    (97, false)]
  keep _ _ := false
  tmp := look false [(41, true),
    (163, true),
    (109, true),
    (53, true),
    (102, true),
    (47, true),
    (87, true),
    (103, true),
    (162, true),
    (104, true),
    (86, true),
    (119, true),
    (75, true),
    (161, true),
    (99, true),
    (144, true),
    (143, true),
    (145, true),
    (146, true),
    (84, true),
    (147, true),
    (148, true),
    (85, true),
    (110, true),
    (170, true),
    (120, true),
    (77, true),
    (54, true),
    (29, true)]
  own := look false [(90, true)]
  outs := look [] [(41, outs41),
    (163, outs163),
    (109, outs109),
    (53, outs53),
    (90, outs90),
    (93, outs93),
    (97, outs97),
    (34, outs34),
    (102, outs102),
    (47, outs47),
    (87, outs87),
    (103, outs103),
    (162, outs162),
    (104, outs104),
    (86, outs86),
    (119, outs119),
    (75, outs75),
    (161, outs161),
    (99, outs99),
    (144, outs144),
    (143, outs143),
    (145, outs145),
    (146, outs146),
    (84, outs84),
    (147, outs147),
    (148, outs148),
    (85, outs85),
    (110, outs110),
    (170, outs170),
    (120, outs120),
    (77, outs77),
    (54, outs54),
    (29, outs29)]
  mouts := look [] [(90, mouts90),
    (93, mouts93),
    (97, mouts97),
    (143, mouts143),
    (146, mouts146),
    (147, mouts147)]
  live := look2 ⟨0, [], []⟩ [(163, 0, S163_0),
    (34, 0, S34_0),
    (34, 2, S34_2),
    (119, 0, S119_0),
    (99, 0, S99_0),
    (144, 0, S144_0),
    (146, 0, S146s0_0),
    (170, 0, S170_0),
    (29, 0, S29_0)]
  exits := look2 [] [(163, 0, [(.ret, S163_0_r), (.exit 0, S163_0_e0)]),
    (34, 0, [(.exit 0, S34_0_e0)]),
    (34, 2, [(.exit 2, S34_2_e2)]),
    (119, 0, [(.ret, S119_0_r), (.exit 0, S119_0_e0)]),
    (99, 0, [(.ret, S99_0_r), (.exit 0, S99_0_e0)]),
    (144, 0, [(.exit 0, S144_0_e0)]),
    (146, 0, [(.exit 0, S146s0_0_e0)]),
    (170, 0, [(.exit 0, S170_0_e0)]),
    (29, 0, [(.exit 0, S29_0_e0)])]
end Go.Proofs.Ytfpdjpleplhcgaa.Am
