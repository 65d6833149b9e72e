/- PRINTED by amprint.py: the shapes that the abstract machine is told. -/
import Derived.Test.YtfpdjpleplhcgaaAmLim
import Derived.Test.YtfpdjpleplhcgaaProg
set_option linter.unusedVariables false
namespace Go.Proofs.Ytfpdjpleplhcgaa.Am
open Go Go.Proofs

def look {α : Type} (d : α) : List (Nat × α) → Nat → α
  | [], _ => d
  | (k, x) :: r, f => bif Nat.beq k f then x else look d r f
def look2 {α : Type} (d : α) : List (Nat × Nat × α) → Nat → Nat → α
  | [], _, _ => d
  | (k, b, x) :: r, f, g => bif Nat.beq k f && Nat.beq b g then x else look2 d r f g
/-- the body of the loop in block b -/
def loopIn (b : Nat) : Nat → Code → Option Code
  | bid, .seq x y => match loopIn b bid x with | some c => some c | none => loopIn b bid y
  | bid, .cond _ x y => match loopIn b bid x with | some c => some c | none => loopIn b bid y
  | _, .block i c => loopIn b i c
  | bid, .loop c => bif Nat.beq bid b then some c else loopIn b bid c
  | _, _ => none
def loopOf (fn : Func) (b : Nat) : Code := match fn.body with
  | some c => match loopIn b 0 c with | some c => c | none => .skip
  | none => .skip

abbrev outs41 : List Vt := [.c (.int .i64)]
abbrev mouts41 : List Mt := []
abbrev outs90 : List Vt := [.c (.ptr 0 0 0)]
abbrev mouts90 : List Mt := [.cells true [.sl 1, .int .i64]]
abbrev outs93 : List Vt := [.c (.int .i64)]
abbrev mouts93 : List Mt := [.cells true [.sl 1, .int .i64]]
abbrev outs97 : List Vt := [.c (.int .i64)]
abbrev mouts97 : List Mt := [.cells true [.sl 1, .int .i64]]
abbrev outs34 : List Vt := [.c (.fs 0)]
abbrev mouts34 : List Mt := [.arr 6 true]
abbrev S34_0 : StTy := ⟨60, [(1, .c (.int .i64)), (5, .c (.ptr 0 0 0)), (6, .c (.ptr 1 0 0)), (7, .c (.fs 2)), (8, .c (.int .i64))], [.cells true [.sl 1, .int .i64], .cells true [.int .i64, .int .i64, .int .i64], .arr 6 true]⟩
abbrev S34_0_e0 : StTy := ⟨60, [(7, .c (.fs 0))], [.arr 6 true]⟩
abbrev S34_2 : StTy := ⟨60, [(1, .c (.int .i64)), (5, .c (.ptr 0 0 0)), (6, .c (.ptr 1 0 0)), (7, .c (.fs 2)), (8, .c (.int .i64)), (9, .c (.ptr 3 0 0)), (10, .c (.int .i64))], [.cells true [.sl 1, .int .i64], .cells true [.int .i64, .int .i64, .int .i64], .arr 6 true, .cells true [.int .i64, .int .i64, .int .i64, .int .i64, .int .i64, .int .i64]]⟩
abbrev S34_2_e2 : StTy := ⟨60, [(1, .c (.int .i64)), (5, .c (.ptr 0 0 0)), (6, .c (.ptr 1 0 0)), (7, .c (.fs 2)), (8, .c (.int .i64)), (9, .c (.ptr 3 0 0))], [.cells true [.sl 1, .int .i64], .cells true [.int .i64, .int .i64, .int .i64], .arr 6 true, .cells true [.int .i64, .int .i64, .int .i64, .int .i64, .int .i64, .int .i64]]⟩
abbrev outs102 : List Vt := [.c (.int .i64)]
abbrev mouts102 : List Mt := []
abbrev outs47 : List Vt := [.agg [.int .i64, .int .i64]]
abbrev mouts47 : List Mt := []
abbrev outs87 : List Vt := [.agg [.int .i64, .int .i64, .int .i64, .int .i64, .int .i64, .int .i64]]
abbrev mouts87 : List Mt := []
abbrev outs98 : List Vt := [.c (.sl 6)]
abbrev mouts98 : List Mt := []
abbrev S98_0 : StTy := ⟨20, [(0, .c (.sl 3)), (3, .c (.fs 0)), (4, .c (.int .i64))], [.arr 6 true]⟩
abbrev S98_0_e0 : StTy := ⟨20, [(3, .c (.fs 0))], [.arr 6 true]⟩
abbrev outs161 : List Vt := [.c (.bool)]
abbrev mouts161 : List Mt := []
abbrev outs99 : List Vt := [.c (.bool)]
abbrev mouts99 : List Mt := []
abbrev S99_0 : StTy := ⟨36, [(0, .c (.sl 6)), (5, .c (.sl 6)), (6, .c (.int .i64)), (7, .c (.int .i64))], []⟩
abbrev S99_0_e0 : StTy := ⟨36, [(0, .c (.sl 6))], []⟩
abbrev S99_0_r : StTy := ⟨36, [(2, .c (.bool))], []⟩
abbrev outs38 : List Vt := [.agg [.int .i64, .int .i64, .int .i64, .int .i64, .int .i64, .int .i64], .c (.int .i64), .c (.bool)]
abbrev mouts38 : List Mt := []
abbrev S38_0 : StTy := ⟨86, [(0, .c (.sl 6)), (4, .c (.ptr 0 0 0)), (7, .c (.ptr 1 0 0)), (8, .c (.int .i64)), (23, .c (.sl 1)), (24, .c (.int .i64)), (25, .c (.int .i64))], [.cells true [.int .i64, .int .i64, .int .i64, .int .i64, .int .i64, .int .i64], .cells true [.int .i64, .int .i64, .int .i64, .int .i64, .int .i64, .int .i64]]⟩
abbrev S38_0_e0 : StTy := ⟨86, [(4, .c (.ptr 0 0 0)), (7, .c (.ptr 1 0 0)), (8, .c (.int .i64))], [.cells true [.int .i64, .int .i64, .int .i64, .int .i64, .int .i64, .int .i64], .cells true [.int .i64, .int .i64, .int .i64, .int .i64, .int .i64, .int .i64]]⟩
abbrev S38_0_r : StTy := ⟨86, [(4, .c (.ptr 0 0 0)), (5, .c (.int .i64)), (6, .c (.bool))], [.cells true [.int .i64, .int .i64, .int .i64, .int .i64, .int .i64, .int .i64]]⟩
abbrev S38_2 : StTy := ⟨86, [(0, .c (.sl 6)), (4, .c (.ptr 0 0 0)), (7, .c (.ptr 1 0 0)), (8, .c (.int .i64)), (9, .c (.int .i64)), (10, .c (.int .i64)), (23, .c (.sl 1)), (24, .c (.int .i64)), (25, .c (.int .i64)), (40, .c (.int .i64))], [.cells true [.int .i64, .int .i64, .int .i64, .int .i64, .int .i64, .int .i64], .cells true [.int .i64, .int .i64, .int .i64, .int .i64, .int .i64, .int .i64]]⟩
abbrev S38_2_e2 : StTy := ⟨86, [(0, .c (.sl 6)), (4, .c (.ptr 0 0 0)), (7, .c (.ptr 1 0 0)), (8, .c (.int .i64)), (23, .c (.sl 1)), (24, .c (.int .i64)), (25, .c (.int .i64))], [.cells true [.int .i64, .int .i64, .int .i64, .int .i64, .int .i64, .int .i64], .cells true [.int .i64, .int .i64, .int .i64, .int .i64, .int .i64, .int .i64]]⟩
abbrev outs36 : List Vt := [.c (.bool)]
abbrev mouts36 : List Mt := []
abbrev outs164 : List Vt := [.c (.bool)]
abbrev mouts164 : List Mt := []
abbrev S164_0 : StTy := ⟨31, [(1, .c (.ptr 0 0 0)), (3, .c (.int .i64))], [.cells true [.int .i64, .int .i64, .int .i64, .int .i64, .int .i64, .int .i64]]⟩
abbrev S164_0_e0 : StTy := ⟨31, [], []⟩
abbrev S164_0_r : StTy := ⟨31, [(2, .c (.bool))], []⟩
abbrev outs130 : List Vt := [.c (.bool)]
abbrev mouts130 : List Mt := []
abbrev S130_0 : StTy := ⟨28, [(0, .c (.sl 6)), (3, .c (.int .i64))], []⟩
abbrev S130_0_e0 : StTy := ⟨28, [(0, .c (.sl 6))], []⟩
abbrev S130_0_r : StTy := ⟨28, [(2, .c (.bool))], []⟩
abbrev outs101 : List Vt := [.c (.int .i64)]
abbrev mouts101 : List Mt := []
abbrev S101_0 : StTy := ⟨18, [(0, .c (.int .i64)), (7, .c (.sl 1)), (8, .c (.int .i64)), (9, .c (.int .i64))], []⟩
abbrev S101_0_e0 : StTy := ⟨18, [(0, .c (.int .i64))], []⟩
abbrev outs42 : List Vt := [.agg [.int .i64, .int .i64, .int .i64, .int .i64, .int .i64, .int .i64]]
abbrev mouts42 : List Mt := []
abbrev S42_0 : StTy := ⟨67, [(0, .c (.sl 6)), (1, .c (.int .i64)), (4, .c (.ptr 0 0 0)), (5, .c (.ptr 1 0 0)), (23, .c (.int .i64))], [.cells true [.int .i64, .int .i64, .int .i64, .int .i64, .int .i64, .int .i64], .cells true [.int .i64, .int .i64, .int .i64, .int .i64, .int .i64, .int .i64]]⟩
abbrev S42_0_e0 : StTy := ⟨67, [(4, .c (.ptr 0 0 0)), (5, .c (.ptr 1 0 0))], [.cells true [.int .i64, .int .i64, .int .i64, .int .i64, .int .i64, .int .i64], .cells true [.int .i64, .int .i64, .int .i64, .int .i64, .int .i64, .int .i64]]⟩
abbrev S42_2 : StTy := ⟨67, [(0, .c (.sl 6)), (1, .c (.int .i64)), (4, .c (.ptr 0 0 0)), (5, .c (.ptr 1 0 0)), (6, .c (.int .i64)), (7, .c (.fs 2)), (8, .c (.fs 3)), (23, .c (.int .i64)), (26, .c (.sl 6)), (27, .c (.int .i64)), (28, .c (.int .i64))], [.cells true [.int .i64, .int .i64, .int .i64, .int .i64, .int .i64, .int .i64], .cells true [.int .i64, .int .i64, .int .i64, .int .i64, .int .i64, .int .i64], .arr 1 true, .arr 1 true]⟩
abbrev S42_2_e2 : StTy := ⟨67, [(0, .c (.sl 6)), (1, .c (.int .i64)), (4, .c (.ptr 0 0 0)), (5, .c (.ptr 1 0 0)), (6, .c (.int .i64)), (7, .c (.fs 2)), (8, .c (.fs 3)), (23, .c (.int .i64))], [.cells true [.int .i64, .int .i64, .int .i64, .int .i64, .int .i64, .int .i64], .cells true [.int .i64, .int .i64, .int .i64, .int .i64, .int .i64, .int .i64], .arr 1 true, .arr 1 true]⟩
abbrev outs103 : List Vt := [.c (.bool)]
abbrev mouts103 : List Mt := []
abbrev outs122 : List Vt := [.agg [.int .i64, .int .i64]]
abbrev mouts122 : List Mt := []
abbrev outs131 : List Vt := [.agg [.int .i64, .int .i64, .int .i64, .int .i64, .int .i64, .int .i64]]
abbrev mouts131 : List Mt := []
abbrev S131_0 : StTy := ⟨66, [(0, .c (.sl 6)), (1, .c (.int .i64)), (4, .c (.ptr 0 0 0)), (5, .c (.ptr 1 0 0)), (6, .c (.int .i64))], [.cells true [.int .i64, .int .i64, .int .i64, .int .i64, .int .i64, .int .i64], .cells true [.int .i64, .int .i64, .int .i64, .int .i64, .int .i64, .int .i64]]⟩
abbrev S131_0_e0 : StTy := ⟨66, [(1, .c (.int .i64)), (4, .c (.ptr 0 0 0)), (5, .c (.ptr 1 0 0))], [.cells true [.int .i64, .int .i64, .int .i64, .int .i64, .int .i64, .int .i64], .cells true [.int .i64, .int .i64, .int .i64, .int .i64, .int .i64, .int .i64]]⟩
abbrev S131_2 : StTy := ⟨66, [(0, .c (.sl 6)), (1, .c (.int .i64)), (4, .c (.ptr 0 0 0)), (5, .c (.ptr 1 0 0)), (6, .c (.int .i64)), (7, .c (.int .i64))], [.cells true [.int .i64, .int .i64, .int .i64, .int .i64, .int .i64, .int .i64], .cells true [.int .i64, .int .i64, .int .i64, .int .i64, .int .i64, .int .i64]]⟩
abbrev S131_2_e2 : StTy := ⟨66, [(0, .c (.sl 6)), (1, .c (.int .i64)), (4, .c (.ptr 0 0 0)), (5, .c (.ptr 1 0 0)), (6, .c (.int .i64))], [.cells true [.int .i64, .int .i64, .int .i64, .int .i64, .int .i64, .int .i64], .cells true [.int .i64, .int .i64, .int .i64, .int .i64, .int .i64, .int .i64]]⟩
abbrev S131_4 : StTy := ⟨66, [(1, .c (.int .i64)), (4, .c (.ptr 0 0 0)), (5, .c (.ptr 1 0 0)), (8, .c (.int .i64))], [.cells true [.int .i64, .int .i64, .int .i64, .int .i64, .int .i64, .int .i64], .cells true [.int .i64, .int .i64, .int .i64, .int .i64, .int .i64, .int .i64]]⟩
abbrev S131_4_e4 : StTy := ⟨66, [(4, .c (.ptr 0 0 0)), (5, .c (.ptr 1 0 0))], [.cells true [.int .i64, .int .i64, .int .i64, .int .i64, .int .i64, .int .i64], .cells true [.int .i64, .int .i64, .int .i64, .int .i64, .int .i64, .int .i64]]⟩
abbrev outs48 : List Vt := [.c (.bool)]
abbrev mouts48 : List Mt := []
abbrev outs125 : List Vt := [.c (.int .i64)]
abbrev mouts125 : List Mt := []
abbrev outs133 : List Vt := [.c (.sl 3)]
abbrev mouts133 : List Mt := []
abbrev S133_0 : StTy := ⟨35, [(3, .c (.fs 0)), (13, .c (.sl 6)), (14, .c (.int .i64)), (15, .c (.int .i64))], [.arr 3 true]⟩
abbrev S133_0_e0 : StTy := ⟨35, [(3, .c (.fs 0))], [.arr 3 true]⟩
abbrev S133_2 : StTy := ⟨35, [(3, .c (.fs 0)), (4, .c (.int .i64)), (5, .c (.ptr 1 0 0)), (13, .c (.sl 6)), (14, .c (.int .i64)), (15, .c (.int .i64)), (20, .c (.int .i64))], [.arr 3 true, .cells true [.int .i64, .int .i64, .int .i64, .int .i64, .int .i64, .int .i64]]⟩
abbrev S133_2_e2 : StTy := ⟨35, [(3, .c (.fs 0)), (13, .c (.sl 6)), (14, .c (.int .i64)), (15, .c (.int .i64))], [.arr 3 true]⟩
abbrev outs116 : List Vt := [.c (.int .i64)]
abbrev mouts116 : List Mt := []
abbrev outs126 : List Vt := [.c (.int .i64)]
abbrev mouts126 : List Mt := []
abbrev outs134 : List Vt := [.c (.sl 3)]
abbrev mouts134 : List Mt := []
abbrev S134_0 : StTy := ⟨37, [(0, .c (.sl 6)), (3, .c (.fs 0)), (4, .c (.int .i64))], [.arr 3 true]⟩
abbrev S134_0_e0 : StTy := ⟨37, [(3, .c (.fs 0))], [.arr 3 true]⟩
abbrev outs132 : List Vt := [.c (.bool)]
abbrev mouts132 : List Mt := []
abbrev S132_0 : StTy := ⟨26, [(0, .c (.sl 3)), (1, .c (.sl 3)), (5, .c (.int .i64))], []⟩
abbrev S132_0_e0 : StTy := ⟨26, [], []⟩
abbrev S132_0_r : StTy := ⟨26, [(4, .c (.bool))], []⟩
abbrev outs80 : List Vt := [.c (.bool)]
abbrev mouts80 : List Mt := []
abbrev outs22 : List Vt := [.c (.bool)]
abbrev mouts22 : List Mt := []
def HH : Hints where
  ro := look true [(93, false),
    (97, false)]
  keep _ _ := false
  tmp := look false [(41, true),
    (102, true),
    (47, true),
    (87, true),
    (161, true),
    (99, true),
    (38, true),
    (36, true),
    (164, true),
    (130, true),
    (101, true),
    (42, true),
    (103, true),
    (122, true),
    (131, true),
    (48, true),
    (125, true),
    (116, true),
    (126, true),
    (132, true),
    (80, true),
    (22, true)]
  own := look false [(90, true),
    (34, true)]
  outs := look [] [(41, outs41),
    (90, outs90),
    (93, outs93),
    (97, outs97),
    (34, outs34),
    (102, outs102),
    (47, outs47),
    (87, outs87),
    (98, outs98),
    (161, outs161),
    (99, outs99),
    (38, outs38),
    (36, outs36),
    (164, outs164),
    (130, outs130),
    (101, outs101),
    (42, outs42),
    (103, outs103),
    (122, outs122),
    (131, outs131),
    (48, outs48),
    (125, outs125),
    (133, outs133),
    (116, outs116),
    (126, outs126),
    (134, outs134),
    (132, outs132),
    (80, outs80),
    (22, outs22)]
  mouts := look [] [(90, mouts90),
    (93, mouts93),
    (97, mouts97),
    (34, mouts34)]
  live := look2 ⟨0, [], []⟩ [(34, 0, S34_0),
    (34, 2, S34_2),
    (98, 0, S98_0),
    (99, 0, S99_0),
    (38, 0, S38_0),
    (38, 2, S38_2),
    (164, 0, S164_0),
    (130, 0, S130_0),
    (101, 0, S101_0),
    (42, 0, S42_0),
    (42, 2, S42_2),
    (131, 0, S131_0),
    (131, 2, S131_2),
    (131, 4, S131_4),
    (133, 0, S133_0),
    (133, 2, S133_2),
    (134, 0, S134_0),
    (132, 0, S132_0)]
  exits := look2 [] [(34, 0, [(.exit 0, S34_0_e0)]),
    (34, 2, [(.exit 2, S34_2_e2)]),
    (98, 0, [(.exit 0, S98_0_e0)]),
    (99, 0, [(.ret, S99_0_r), (.exit 0, S99_0_e0)]),
    (38, 0, [(.ret, S38_0_r), (.exit 0, S38_0_e0)]),
    (38, 2, [(.exit 2, S38_2_e2)]),
    (164, 0, [(.ret, S164_0_r), (.exit 0, S164_0_e0)]),
    (130, 0, [(.ret, S130_0_r), (.exit 0, S130_0_e0)]),
    (101, 0, [(.exit 0, S101_0_e0)]),
    (42, 0, [(.exit 0, S42_0_e0)]),
    (42, 2, [(.exit 2, S42_2_e2)]),
    (131, 0, [(.exit 0, S131_0_e0)]),
    (131, 2, [(.exit 2, S131_2_e2)]),
    (131, 4, [(.exit 4, S131_4_e4)]),
    (133, 0, [(.exit 0, S133_0_e0)]),
    (133, 2, [(.exit 2, S133_2_e2)]),
    (134, 0, [(.exit 0, S134_0_e0)]),
    (132, 0, [(.ret, S132_0_r), (.exit 0, S132_0_e0)])]
end Go.Proofs.Ytfpdjpleplhcgaa.Am
