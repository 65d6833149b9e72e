/- PRINTED by amprint.py: the shapes that the abstract machine is told. -/
import Derived.Test.YtfpdjpleplhcgaaAmLim
import Derived.Test.YtfpdjpleplhcgaaProg
set_option linter.unusedVariables false
namespace Go.Proofs.Ytfpdjpleplhcgaa.Am
open Go Go.Proofs

def look {α : Type} (d : α) : List (Nat × α) → Nat → α
  | [], _ => d
  | (k, x) :: r, f => bif Nat.beq k f then x else look d r f
def look2 {α : Type} (d : α) : List (Nat × Nat × α) → Nat → Nat → α
  | [], _, _ => d
  | (k, b, x) :: r, f, g => bif Nat.beq k f && Nat.beq b g then x else look2 d r f g
/-- the body of the loop in block b -/
def loopIn (b : Nat) : Nat → Code → Option Code
  | bid, .seq x y => match loopIn b bid x with | some c => some c | none => loopIn b bid y
  | bid, .cond _ x y => match loopIn b bid x with | some c => some c | none => loopIn b bid y
  | _, .block i c => loopIn b i c
  | bid, .loop c => bif Nat.beq bid b then some c else loopIn b bid c
  | _, _ => none
def loopOf (fn : Func) (b : Nat) : Code := match fn.body with
  | some c => match loopIn b 0 c with | some c => c | none => .skip
  | none => .skip

abbrev outs90 : List Vt := [.c (.ptr 0 0 0)]
abbrev mouts90 : List Mt := [.cells true [.sl 1, .int .i64]]
abbrev outs41 : List Vt := [.c (.int .i64)]
abbrev mouts41 : List Mt := []
abbrev outs93 : List Vt := [.c (.int .i64)]
abbrev mouts93 : List Mt := [.cells true [.sl 1, .int .i64]]
abbrev outs97 : List Vt := [.c (.int .i64)]
abbrev mouts97 : List Mt := [.cells true [.sl 1, .int .i64]]
abbrev outs34 : List Vt := [.c (.fs 0)]
abbrev mouts34 : List Mt := [.arr 6 true]
abbrev S34_0 : StTy := ⟨60, [(1, .c (.int .i64)), (5, .c (.ptr 0 0 0)), (6, .c (.ptr 1 0 0)), (7, .c (.fs 2)), (8, .c (.int .i64))], [.cells true [.sl 1, .int .i64], .cells true [.int .i64, .int .i64, .int .i64], .arr 6 true]⟩
abbrev S34_0_e0 : StTy := ⟨60, [(7, .c (.fs 0))], [.arr 6 true]⟩
abbrev S34_2 : StTy := ⟨60, [(1, .c (.int .i64)), (5, .c (.ptr 0 0 0)), (6, .c (.ptr 1 0 0)), (7, .c (.fs 2)), (8, .c (.int .i64)), (9, .c (.ptr 3 0 0)), (10, .c (.int .i64))], [.cells true [.sl 1, .int .i64], .cells true [.int .i64, .int .i64, .int .i64], .arr 6 true, .cells true [.int .i64, .int .i64, .int .i64, .int .i64, .int .i64, .int .i64]]⟩
abbrev S34_2_e2 : StTy := ⟨60, [(1, .c (.int .i64)), (5, .c (.ptr 0 0 0)), (6, .c (.ptr 1 0 0)), (7, .c (.fs 2)), (8, .c (.int .i64)), (9, .c (.ptr 3 0 0))], [.cells true [.sl 1, .int .i64], .cells true [.int .i64, .int .i64, .int .i64], .arr 6 true, .cells true [.int .i64, .int .i64, .int .i64, .int .i64, .int .i64, .int .i64]]⟩
abbrev outs102 : List Vt := [.c (.int .i64)]
abbrev mouts102 : List Mt := []
abbrev outs47 : List Vt := [.agg [.int .i64, .int .i64]]
abbrev mouts47 : List Mt := []
abbrev outs87 : List Vt := [.agg [.int .i64, .int .i64, .int .i64, .int .i64, .int .i64, .int .i64]]
abbrev mouts87 : List Mt := []
abbrev outs98 : List Vt := [.c (.sl 6)]
abbrev mouts98 : List Mt := []
abbrev S98_0 : StTy := ⟨20, [(0, .c (.sl 3)), (3, .c (.fs 0)), (4, .c (.int .i64))], [.arr 6 true]⟩
abbrev S98_0_e0 : StTy := ⟨20, [(3, .c (.fs 0))], [.arr 6 true]⟩
abbrev outs161 : List Vt := [.c (.bool)]
abbrev mouts161 : List Mt := []
abbrev outs99 : List Vt := [.c (.bool)]
abbrev mouts99 : List Mt := []
abbrev S99_0 : StTy := ⟨36, [(0, .c (.sl 6)), (5, .c (.sl 6)), (6, .c (.int .i64)), (7, .c (.int .i64))], []⟩
abbrev S99_0_e0 : StTy := ⟨36, [(0, .c (.sl 6))], []⟩
abbrev S99_0_r : StTy := ⟨36, [(2, .c (.bool))], []⟩
abbrev outs38 : List Vt := [.agg [.int .i64, .int .i64, .int .i64, .int .i64, .int .i64, .int .i64], .c (.int .i64), .c (.bool)]
abbrev mouts38 : List Mt := []
abbrev S38_0 : StTy := ⟨86, [(0, .c (.sl 6)), (4, .c (.ptr 0 0 0)), (7, .c (.ptr 1 0 0)), (8, .c (.int .i64)), (23, .c (.sl 1)), (24, .c (.int .i64)), (25, .c (.int .i64))], [.cells true [.int .i64, .int .i64, .int .i64, .int .i64, .int .i64, .int .i64], .cells true [.int .i64, .int .i64, .int .i64, .int .i64, .int .i64, .int .i64]]⟩
abbrev S38_0_e0 : StTy := ⟨86, [(4, .c (.ptr 0 0 0)), (7, .c (.ptr 1 0 0)), (8, .c (.int .i64))], [.cells true [.int .i64, .int .i64, .int .i64, .int .i64, .int .i64, .int .i64], .cells true [.int .i64, .int .i64, .int .i64, .int .i64, .int .i64, .int .i64]]⟩
abbrev S38_0_r : StTy := ⟨86, [(4, .c (.ptr 0 0 0)), (5, .c (.int .i64)), (6, .c (.bool))], [.cells true [.int .i64, .int .i64, .int .i64, .int .i64, .int .i64, .int .i64]]⟩
abbrev S38_2 : StTy := ⟨86, [(0, .c (.sl 6)), (4, .c (.ptr 0 0 0)), (7, .c (.ptr 1 0 0)), (8, .c (.int .i64)), (9, .c (.int .i64)), (10, .c (.int .i64)), (23, .c (.sl 1)), (24, .c (.int .i64)), (25, .c (.int .i64)), (40, .c (.int .i64))], [.cells true [.int .i64, .int .i64, .int .i64, .int .i64, .int .i64, .int .i64], .cells true [.int .i64, .int .i64, .int .i64, .int .i64, .int .i64, .int .i64]]⟩
abbrev S38_2_e2 : StTy := ⟨86, [(0, .c (.sl 6)), (4, .c (.ptr 0 0 0)), (7, .c (.ptr 1 0 0)), (8, .c (.int .i64)), (23, .c (.sl 1)), (24, .c (.int .i64)), (25, .c (.int .i64))], [.cells true [.int .i64, .int .i64, .int .i64, .int .i64, .int .i64, .int .i64], .cells true [.int .i64, .int .i64, .int .i64, .int .i64, .int .i64, .int .i64]]⟩
abbrev outs114 : List Vt := [.c (.int .i64)]
abbrev mouts114 : List Mt := []
abbrev S114_0 : StTy := ⟨19, [(3, .c (.int .i64)), (6, .c (.sl 1)), (7, .c (.int .i64)), (8, .c (.int .i64))], []⟩
abbrev S114_0_e0 : StTy := ⟨19, [(3, .c (.int .i64))], []⟩
abbrev outs60 : List Vt := [.c (.int .i64), .c (.bool)]
abbrev mouts60 : List Mt := []
abbrev S60_0 : StTy := ⟨109, [(14, .c (.ptr 0 0 0)), (15, .c (.int .i64)), (17, .c (.ptr 1 0 0)), (20, .c (.int .i64)), (21, .c (.int .i64)), (71, .c (.int .i64))], [.cells true [.int .i64, .int .i64, .int .i64, .int .i64, .int .i64, .int .i64], .cells true [.int .i64, .int .i64, .int .i64, .int .i64, .int .i64, .int .i64]]⟩
abbrev S60_0_e0 : StTy := ⟨109, [(21, .c (.int .i64))], []⟩
abbrev S60_0_r : StTy := ⟨109, [(12, .c (.int .i64)), (13, .c (.bool))], []⟩
abbrev outs61 : List Vt := [.c (.bool)]
abbrev mouts61 : List Mt := []
abbrev outs57 : List Vt := [.c (.bool)]
abbrev mouts57 : List Mt := []
abbrev outs59 : List Vt := [.c (.int .i64)]
abbrev mouts59 : List Mt := []
abbrev outs15 : List Vt := [.c (.bool)]
abbrev mouts15 : List Mt := []
def HH : Hints where
  ro := look true [(93, false),
    (97, false)]
  keep _ _ := false
  tmp := look false [(41, true),
    (102, true),
    (47, true),
    (87, true),
    (161, true),
    (99, true),
    (38, true),
    (114, true),
    (60, true),
    (61, true),
    (57, true),
    (59, true),
    (15, true)]
  own := look false [(90, true),
    (34, true)]
  outs := look [] [(90, outs90),
    (41, outs41),
    (93, outs93),
    (97, outs97),
    (34, outs34),
    (102, outs102),
    (47, outs47),
    (87, outs87),
    (98, outs98),
    (161, outs161),
    (99, outs99),
    (38, outs38),
    (114, outs114),
    (60, outs60),
    (61, outs61),
    (57, outs57),
    (59, outs59),
    (15, outs15)]
  mouts := look [] [(90, mouts90),
    (93, mouts93),
    (97, mouts97),
    (34, mouts34)]
  live := look2 ⟨0, [], []⟩ [(34, 0, S34_0),
    (34, 2, S34_2),
    (98, 0, S98_0),
    (99, 0, S99_0),
    (38, 0, S38_0),
    (38, 2, S38_2),
    (114, 0, S114_0),
    (60, 0, S60_0)]
  exits := look2 [] [(34, 0, [(.exit 0, S34_0_e0)]),
    (34, 2, [(.exit 2, S34_2_e2)]),
    (98, 0, [(.exit 0, S98_0_e0)]),
    (99, 0, [(.ret, S99_0_r), (.exit 0, S99_0_e0)]),
    (38, 0, [(.ret, S38_0_r), (.exit 0, S38_0_e0)]),
    (38, 2, [(.exit 2, S38_2_e2)]),
    (114, 0, [(.exit 0, S114_0_e0)]),
    (60, 0, [(.ret, S60_0_r), (.exit 0, S60_0_e0)])]
end Go.Proofs.Ytfpdjpleplhcgaa.Am
