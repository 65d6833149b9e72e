/- PRINTED by amprint.py: the shapes that the abstract machine is told. -/
import Derived.Test.YtfpdjpleplhcgaaAmLim
import Derived.Test.YtfpdjpleplhcgaaProg
set_option linter.unusedVariables false
namespace Go.Proofs.Ytfpdjpleplhcgaa.Am
open Go Go.Proofs

def look {α : Type} (d : α) : List (Nat × α) → Nat → α
  | [], _ => d
  | (k, x) :: r, f => bif Nat.beq k f then x else look d r f
def look2 {α : Type} (d : α) : List (Nat × Nat × α) → Nat → Nat → α
  | [], _, _ => d
  | (k, b, x) :: r, f, g => bif Nat.beq k f && Nat.beq b g then x else look2 d r f g
/-- the body of the loop in block b -/
def loopIn (b : Nat) : Nat → Code → Option Code
  | bid, .seq x y => match loopIn b bid x with | some c => some c | none => loopIn b bid y
  | bid, .cond _ x y => match loopIn b bid x with | some c => some c | none => loopIn b bid y
  | _, .block i c => loopIn b i c
  | bid, .loop c => bif Nat.beq bid b then some c else loopIn b bid c
  | _, _ => none
def loopOf (fn : Func) (b : Nat) : Code := match fn.body with
  | some c => match loopIn b 0 c with | some c => c | none => .skip
  | none => .skip

abbrev outs41 : List Vt := [.c (.int .i64)]
abbrev mouts41 : List Mt := []
abbrev outs163 : List Vt := [.c (.bool)]
abbrev mouts163 : List Mt := []
abbrev S163_0 : StTy := ⟨23, [(1, .c (.int .i64)), (2, .c (.ptr 0 0 0)), (5, .c (.int .i64))], [.cells true [.int .i64, .int .i64, .int .i64]]⟩
abbrev S163_0_e0 : StTy := ⟨23, [], []⟩
abbrev S163_0_r : StTy := ⟨23, [(4, .c (.bool))], []⟩
abbrev outs109 : List Vt := [.c (.bool)]
abbrev mouts109 : List Mt := []
abbrev outs53 : List Vt := [.agg [.int .i64, .int .i64, .int .i64]]
abbrev mouts53 : List Mt := []
abbrev outs90 : List Vt := [.c (.ptr 0 0 0)]
abbrev mouts90 : List Mt := [.cells true [.sl 1, .int .i64]]
abbrev outs93 : List Vt := [.c (.int .i64)]
abbrev mouts93 : List Mt := [.cells true [.sl 1, .int .i64]]
abbrev outs97 : List Vt := [.c (.int .i64)]
abbrev mouts97 : List Mt := [.cells true [.sl 1, .int .i64]]
abbrev outs34 : List Vt := [.c (.sl 6)]
abbrev mouts34 : List Mt := []
abbrev S34_0 : StTy := ⟨60, [(1, .c (.int .i64)), (5, .c (.ptr 0 0 0)), (6, .c (.ptr 1 0 0)), (7, .c (.fs 2)), (8, .c (.int .i64))], [.cells true [.sl 1, .int .i64], .cells true [.int .i64, .int .i64, .int .i64], .arr 6 true]⟩
abbrev S34_0_e0 : StTy := ⟨60, [(7, .c (.fs 0))], [.arr 6 true]⟩
abbrev S34_2 : StTy := ⟨60, [(1, .c (.int .i64)), (5, .c (.ptr 0 0 0)), (6, .c (.ptr 1 0 0)), (7, .c (.fs 2)), (8, .c (.int .i64)), (9, .c (.ptr 3 0 0)), (10, .c (.int .i64))], [.cells true [.sl 1, .int .i64], .cells true [.int .i64, .int .i64, .int .i64], .arr 6 true, .cells true [.int .i64, .int .i64, .int .i64, .int .i64, .int .i64, .int .i64]]⟩
abbrev S34_2_e2 : StTy := ⟨60, [(1, .c (.int .i64)), (5, .c (.ptr 0 0 0)), (6, .c (.ptr 1 0 0)), (7, .c (.fs 2)), (8, .c (.int .i64)), (9, .c (.ptr 3 0 0))], [.cells true [.sl 1, .int .i64], .cells true [.int .i64, .int .i64, .int .i64], .arr 6 true, .cells true [.int .i64, .int .i64, .int .i64, .int .i64, .int .i64, .int .i64]]⟩
abbrev outs35 : List Vt := [.c (.sl 1)]
abbrev mouts35 : List Mt := []
abbrev S35_0 : StTy := ⟨31, [(0, .c (.int .i64)), (5, .c (.ptr 0 0 0)), (6, .c (.fs 1)), (7, .c (.int .i64))], [.cells true [.sl 1, .int .i64], .arr 1 true]⟩
abbrev S35_0_e0 : StTy := ⟨31, [(0, .c (.int .i64)), (5, .c (.ptr 0 0 0)), (6, .c (.fs 1))], [.cells true [.sl 1, .int .i64], .arr 1 true]⟩
abbrev outs65 : List Vt := [.agg [.int .i64, .int .i64]]
abbrev mouts65 : List Mt := []
abbrev outs39 : List Vt := [.c (.sl 6)]
abbrev mouts39 : List Mt := []
abbrev S39_0 : StTy := ⟨38, [(0, .c (.sl 6)), (5, .c (.ptr 0 0 0)), (6, .c (.fs 1)), (7, .c (.int .i64))], [.cells true [.sl 1, .int .i64], .arr 6 true]⟩
abbrev S39_0_e0 : StTy := ⟨38, [(6, .c (.fs 0))], [.arr 6 true]⟩
abbrev S39_2 : StTy := ⟨38, [(0, .c (.sl 6)), (5, .c (.ptr 0 0 0)), (6, .c (.fs 1)), (7, .c (.int .i64)), (8, .c (.ptr 2 0 0)), (9, .c (.int .i64))], [.cells true [.sl 1, .int .i64], .arr 6 true, .cells true [.int .i64, .int .i64, .int .i64, .int .i64, .int .i64, .int .i64]]⟩
abbrev S39_2_e2 : StTy := ⟨38, [(0, .c (.sl 6)), (5, .c (.ptr 0 0 0)), (6, .c (.fs 1)), (7, .c (.int .i64)), (8, .c (.ptr 2 0 0))], [.cells true [.sl 1, .int .i64], .arr 6 true, .cells true [.int .i64, .int .i64, .int .i64, .int .i64, .int .i64, .int .i64]]⟩
abbrev outs119 : List Vt := [.c (.bool)]
abbrev mouts119 : List Mt := []
abbrev S119_0 : StTy := ⟨16, [(5, .agg [.int .i64, .int .i64, .int .i64]), (6, .c (.int .i64))], []⟩
abbrev S119_0_e0 : StTy := ⟨16, [], []⟩
abbrev S119_0_r : StTy := ⟨16, [(2, .c (.bool))], []⟩
abbrev outs75 : List Vt := [.c (.bool)]
abbrev mouts75 : List Mt := []
abbrev outs161 : List Vt := [.c (.bool)]
abbrev mouts161 : List Mt := []
abbrev outs99 : List Vt := [.c (.bool)]
abbrev mouts99 : List Mt := []
abbrev S99_0 : StTy := ⟨36, [(0, .c (.sl 6)), (5, .c (.sl 6)), (6, .c (.int .i64)), (7, .c (.int .i64))], []⟩
abbrev S99_0_e0 : StTy := ⟨36, [(0, .c (.sl 6))], []⟩
abbrev S99_0_r : StTy := ⟨36, [(2, .c (.bool))], []⟩
abbrev outs144 : List Vt := [.c (.int .i64), .c (.int .i64)]
abbrev mouts144 : List Mt := []
abbrev S144_0 : StTy := ⟨42, [(2, .c (.ptr 0 0 0)), (6, .c (.int .i64)), (7, .c (.int .i64)), (12, .agg [.int .i64, .int .i64, .int .i64, .int .i64, .int .i64, .int .i64]), (13, .c (.int .i64))], [.cells true [.int .i64, .int .i64, .int .i64]]⟩
abbrev S144_0_e0 : StTy := ⟨42, [(6, .c (.int .i64)), (7, .c (.int .i64))], []⟩
abbrev outs143 : List Vt := [.c (.int .i64)]
abbrev mouts143 : List Mt := [.cells true [.int .i64, .int .i64, .int .i64]]
abbrev outs145 : List Vt := [.c (.bool)]
abbrev mouts145 : List Mt := []
abbrev outs146 : List Vt := [.c (.int .i64), .c (.int .i64)]
abbrev mouts146 : List Mt := [.cells true [.int .i64, .int .i64, .int .i64]]
abbrev S146s0_0 : StTy := ⟨38, [(2, .c (.ptr 1 0 0)), (6, .c (.int .i64)), (7, .c (.int .i64)), (17, .c (.sl 6)), (18, .c (.int .i64)), (19, .c (.int .i64))], [.cells true [.int .i64, .int .i64, .int .i64], .cells false [.raw, .raw]]⟩
abbrev S146s0_0_e0 : StTy := ⟨38, [(6, .c (.int .i64)), (7, .c (.int .i64))], [.cells true [.int .i64, .int .i64, .int .i64]]⟩
abbrev outs84 : List Vt := [.c (.int .i64), .c (.int .i64), .c (.bool)]
abbrev mouts84 : List Mt := []
abbrev outs147 : List Vt := [.c (.int .i64)]
abbrev mouts147 : List Mt := [.cells true [.int .i64, .int .i64, .int .i64]]
abbrev outs148 : List Vt := [.c (.bool)]
abbrev mouts148 : List Mt := []
abbrev S146s1_0 : StTy := S146s0_0
abbrev S146s1_0_e0 : StTy := S146s0_0_e0
abbrev outs85 : List Vt := [.c (.int .i64), .c (.int .i64), .c (.bool)]
abbrev mouts85 : List Mt := []
abbrev outs40 : List Vt := [.c (.int .i64)]
abbrev mouts40 : List Mt := []
abbrev S40_0 : StTy := ⟨18, [(0, .c (.sl 1)), (3, .c (.int .i64)), (4, .c (.int .i64))], []⟩
abbrev S40_0_e0 : StTy := ⟨18, [(3, .c (.int .i64))], []⟩
abbrev outs110 : List Vt := [.c (.int .i64), .c (.int .i64)]
abbrev mouts110 : List Mt := []
abbrev outs170 : List Vt := [.c (.int .i64)]
abbrev mouts170 : List Mt := []
abbrev S170_0 : StTy := ⟨24, [(0, .c (.int .i64)), (3, .c (.int .i64)), (8, .c (.int .i64))], []⟩
abbrev S170_0_e0 : StTy := ⟨24, [(3, .c (.int .i64))], []⟩
abbrev outs120 : List Vt := [.c (.int .i64)]
abbrev mouts120 : List Mt := []
abbrev outs77 : List Vt := [.c (.int .i64)]
abbrev mouts77 : List Mt := []
abbrev outs54 : List Vt := [.c (.bool)]
abbrev mouts54 : List Mt := []
abbrev outs28 : List Vt := [.c (.bool)]
abbrev mouts28 : List Mt := []
abbrev S28_0 : StTy := ⟨118, [(13, .c (.ptr 0 0 0)), (14, .c (.sl 6)), (15, .c (.sl 1)), (16, .c (.sl 6)), (17, .c (.int .i64)), (18, .c (.int .i64))], [.cells true [.int .i64, .int .i64, .int .i64]]⟩
abbrev S28_0_e0 : StTy := ⟨118, [(13, .c (.ptr 0 0 0)), (14, .c (.sl 6)), (15, .c (.sl 1)), (17, .c (.int .i64))], [.cells true [.int .i64, .int .i64, .int .i64]]⟩
def HH : Hints where
  ro := look true [(93, false),
    (97, false)]
  keep _ _ := false
  tmp := look false [(41, true),
    (163, true),
    (109, true),
    (53, true),
    (65, true),
    (119, true),
    (75, true),
    (161, true),
    (99, true),
    (144, true),
    (143, true),
    (145, true),
    (146, true),
    (84, true),
    (147, true),
    (148, true),
    (85, true),
    (40, true),
    (110, true),
    (170, true),
    (120, true),
    (77, true),
    (54, true),
    (28, true)]
  own := look false [(90, true)]
  outs := look [] [(41, outs41),
    (163, outs163),
    (109, outs109),
    (53, outs53),
    (90, outs90),
    (93, outs93),
    (97, outs97),
    (34, outs34),
    (35, outs35),
    (65, outs65),
    (39, outs39),
    (119, outs119),
    (75, outs75),
    (161, outs161),
    (99, outs99),
    (144, outs144),
    (143, outs143),
    (145, outs145),
    (146, outs146),
    (84, outs84),
    (147, outs147),
    (148, outs148),
    (85, outs85),
    (40, outs40),
    (110, outs110),
    (170, outs170),
    (120, outs120),
    (77, outs77),
    (54, outs54),
    (28, outs28)]
  mouts := look [] [(90, mouts90),
    (93, mouts93),
    (97, mouts97),
    (143, mouts143),
    (146, mouts146),
    (147, mouts147)]
  live := look2 ⟨0, [], []⟩ [(163, 0, S163_0),
    (34, 0, S34_0),
    (34, 2, S34_2),
    (35, 0, S35_0),
    (39, 0, S39_0),
    (39, 2, S39_2),
    (119, 0, S119_0),
    (99, 0, S99_0),
    (144, 0, S144_0),
    (146, 0, S146s0_0),
    (40, 0, S40_0),
    (170, 0, S170_0),
    (28, 0, S28_0)]
  exits := look2 [] [(163, 0, [(.ret, S163_0_r), (.exit 0, S163_0_e0)]),
    (34, 0, [(.exit 0, S34_0_e0)]),
    (34, 2, [(.exit 2, S34_2_e2)]),
    (35, 0, [(.exit 0, S35_0_e0)]),
    (39, 0, [(.exit 0, S39_0_e0)]),
    (39, 2, [(.exit 2, S39_2_e2)]),
    (119, 0, [(.ret, S119_0_r), (.exit 0, S119_0_e0)]),
    (99, 0, [(.ret, S99_0_r), (.exit 0, S99_0_e0)]),
    (144, 0, [(.exit 0, S144_0_e0)]),
    (146, 0, [(.exit 0, S146s0_0_e0)]),
    (40, 0, [(.exit 0, S40_0_e0)]),
    (170, 0, [(.exit 0, S170_0_e0)]),
    (28, 0, [(.exit 0, S28_0_e0)])]
end Go.Proofs.Ytfpdjpleplhcgaa.Am
