/- PRINTED by amprint.py: the shapes that the abstract machine is told. -/
import Derived.Test.YtanjfmogmlgphaaAmLim
import Derived.Test.YtanjfmogmlgphaaProg
set_option linter.unusedVariables false
namespace Go.Proofs.Ytanjfmogmlgphaa.Am
open Go Go.Proofs

def look {α : Type} (d : α) : List (Nat × α) → Nat → α
  | [], _ => d
  | (k, x) :: r, f => bif Nat.beq k f then x else look d r f
def look2 {α : Type} (d : α) : List (Nat × Nat × α) → Nat → Nat → α
  | [], _, _ => d
  | (k, b, x) :: r, f, g => bif Nat.beq k f && Nat.beq b g then x else look2 d r f g
/-- the body of the loop in block b -/
def loopIn (b : Nat) : Nat → Code → Option Code
  | bid, .seq x y => match loopIn b bid x with | some c => some c | none => loopIn b bid y
  | bid, .cond _ x y => match loopIn b bid x with | some c => some c | none => loopIn b bid y
  | _, .block i c => loopIn b i c
  | bid, .loop c => bif Nat.beq bid b then some c else loopIn b bid c
  | _, _ => none
def loopOf (fn : Func) (b : Nat) : Code := match fn.body with
  | some c => match loopIn b 0 c with | some c => c | none => .skip
  | none => .skip

abbrev outs26 : List Vt := [.c (.ptr 0 0 0)]
abbrev mouts26 : List Mt := [.cells true [.sl 1, .int .i64]]
abbrev outs20 : List Vt := [.c (.int .i64)]
abbrev mouts20 : List Mt := []
abbrev outs27 : List Vt := [.c (.int .i64)]
abbrev mouts27 : List Mt := [.cells true [.sl 1, .int .i64]]
abbrev outs30 : List Vt := [.c (.int .i64)]
abbrev mouts30 : List Mt := [.cells true [.sl 1, .int .i64]]
abbrev outs11 : List Vt := [.c (.fs 0)]
abbrev mouts11 : List Mt := [.arr 6 true]
abbrev S11_0 : StTy := ⟨60, [(1, .c (.int .i64)), (5, .c (.ptr 0 0 0)), (6, .c (.ptr 1 0 0)), (7, .c (.fs 2)), (8, .c (.int .i64))], [.cells true [.sl 1, .int .i64], .cells true [.int .i64, .int .i64, .int .i64], .arr 6 true]⟩
abbrev S11_0_e0 : StTy := ⟨60, [(7, .c (.fs 0))], [.arr 6 true]⟩
abbrev S11_2 : StTy := ⟨60, [(1, .c (.int .i64)), (5, .c (.ptr 0 0 0)), (6, .c (.ptr 1 0 0)), (7, .c (.fs 2)), (8, .c (.int .i64)), (9, .c (.ptr 3 0 0)), (10, .c (.int .i64))], [.cells true [.sl 1, .int .i64], .cells true [.int .i64, .int .i64, .int .i64], .arr 6 true, .cells true [.int .i64, .int .i64, .int .i64, .int .i64, .int .i64, .int .i64]]⟩
abbrev S11_2_e2 : StTy := ⟨60, [(1, .c (.int .i64)), (5, .c (.ptr 0 0 0)), (6, .c (.ptr 1 0 0)), (7, .c (.fs 2)), (8, .c (.int .i64)), (9, .c (.ptr 3 0 0))], [.cells true [.sl 1, .int .i64], .cells true [.int .i64, .int .i64, .int .i64], .arr 6 true, .cells true [.int .i64, .int .i64, .int .i64, .int .i64, .int .i64, .int .i64]]⟩
abbrev outs39 : List Vt := [.c (.bool)]
abbrev mouts39 : List Mt := []
abbrev S39_0 : StTy := ⟨23, [(1, .c (.int .i64)), (2, .c (.ptr 0 0 0)), (5, .c (.int .i64))], [.cells true [.int .i64, .int .i64, .int .i64]]⟩
abbrev S39_0_e0 : StTy := ⟨23, [], []⟩
abbrev S39_0_r : StTy := ⟨23, [(4, .c (.bool))], []⟩
abbrev outs31 : List Vt := [.c (.bool)]
abbrev mouts31 : List Mt := []
abbrev outs12 : List Vt := [.agg [.int .i64, .int .i64, .int .i64]]
abbrev mouts12 : List Mt := []
abbrev outs15 : List Vt := [.c (.int .i64)]
abbrev mouts15 : List Mt := []
abbrev outs54 : List Vt := [.c (.bool)]
abbrev mouts54 : List Mt := []
abbrev S54_0 : StTy := ⟨16, [(5, .agg [.int .i64, .int .i64, .int .i64]), (6, .c (.int .i64))], []⟩
abbrev S54_0_e0 : StTy := ⟨16, [], []⟩
abbrev S54_0_r : StTy := ⟨16, [(2, .c (.bool))], []⟩
abbrev outs43 : List Vt := [.c (.bool)]
abbrev mouts43 : List Mt := []
abbrev outs64 : List Vt := [.c (.bool)]
abbrev mouts64 : List Mt := []
abbrev outs55 : List Vt := [.c (.bool)]
abbrev mouts55 : List Mt := []
abbrev S55_0 : StTy := ⟨36, [(0, .c (.sl 6)), (5, .c (.sl 6)), (6, .c (.int .i64)), (7, .c (.int .i64))], []⟩
abbrev S55_0_e0 : StTy := ⟨36, [(0, .c (.sl 6))], []⟩
abbrev S55_0_r : StTy := ⟨36, [(2, .c (.bool))], []⟩
abbrev outs44 : List Vt := [.c (.bool)]
abbrev mouts44 : List Mt := []
abbrev outs57 : List Vt := [.c (.int .i64), .c (.int .i64)]
abbrev mouts57 : List Mt := []
abbrev S57_0 : StTy := ⟨42, [(2, .c (.ptr 0 0 0)), (6, .c (.int .i64)), (7, .c (.int .i64)), (12, .agg [.int .i64, .int .i64, .int .i64, .int .i64, .int .i64, .int .i64]), (13, .c (.int .i64))], [.cells true [.int .i64, .int .i64, .int .i64]]⟩
abbrev S57_0_e0 : StTy := ⟨42, [(6, .c (.int .i64)), (7, .c (.int .i64))], []⟩
abbrev outs56 : List Vt := [.c (.int .i64)]
abbrev mouts56 : List Mt := [.cells true [.int .i64, .int .i64, .int .i64]]
abbrev outs58 : List Vt := [.c (.bool)]
abbrev mouts58 : List Mt := []
abbrev outs59 : List Vt := [.c (.int .i64), .c (.int .i64)]
abbrev mouts59 : List Mt := [.cells true [.int .i64, .int .i64, .int .i64]]
abbrev S59s0_0 : StTy := ⟨38, [(2, .c (.ptr 1 0 0)), (6, .c (.int .i64)), (7, .c (.int .i64)), (17, .c (.sl 6)), (18, .c (.int .i64)), (19, .c (.int .i64))], [.cells true [.int .i64, .int .i64, .int .i64], .cells false [.raw, .raw]]⟩
abbrev S59s0_0_e0 : StTy := ⟨38, [(6, .c (.int .i64)), (7, .c (.int .i64))], [.cells true [.int .i64, .int .i64, .int .i64]]⟩
abbrev outs45 : List Vt := [.c (.int .i64), .c (.int .i64), .c (.bool)]
abbrev mouts45 : List Mt := []
abbrev outs60 : List Vt := [.c (.int .i64)]
abbrev mouts60 : List Mt := [.cells true [.int .i64, .int .i64, .int .i64]]
abbrev outs61 : List Vt := [.c (.bool)]
abbrev mouts61 : List Mt := []
abbrev S59s1_0 : StTy := S59s0_0
abbrev S59s1_0_e0 : StTy := S59s0_0_e0
abbrev outs46 : List Vt := [.c (.int .i64), .c (.int .i64), .c (.bool)]
abbrev mouts46 : List Mt := []
abbrev outs65 : List Vt := [.c (.int .i64)]
abbrev mouts65 : List Mt := []
abbrev S65_0 : StTy := ⟨24, [(0, .c (.int .i64)), (3, .c (.int .i64)), (8, .c (.int .i64))], []⟩
abbrev S65_0_e0 : StTy := ⟨24, [(3, .c (.int .i64))], []⟩
abbrev outs62 : List Vt := [.c (.int .i64)]
abbrev mouts62 : List Mt := []
abbrev outs47 : List Vt := [.c (.int .i64)]
abbrev mouts47 : List Mt := []
abbrev outs34 : List Vt := [.c (.int .i64), .c (.bool)]
abbrev mouts34 : List Mt := []
abbrev outs16 : List Vt := [.c (.int .i64), .c (.bool)]
abbrev mouts16 : List Mt := []
abbrev outs25 : List Vt := [.c (.bool)]
abbrev mouts25 : List Mt := []
abbrev outs13 : List Vt := [.c (.bool)]
abbrev mouts13 : List Mt := []
abbrev outs9 : List Vt := [.c (.bool)]
abbrev mouts9 : List Mt := []
def HH : Hints where
  ro := look true [(27, false),
    (30, false)]
  keep _ _ := false
  tmp := look false [(20, true),
    (39, true),
    (31, true),
    (12, true),
    (15, true),
    (54, true),
    (43, true),
    (64, true),
    (55, true),
    (44, true),
    (57, true),
    (56, true),
    (58, true),
    (59, true),
    (45, true),
    (60, true),
    (61, true),
    (46, true),
    (65, true),
    (62, true),
    (47, true),
    (34, true),
    (16, true),
    (25, true),
    (13, true),
    (9, true)]
  own := look false [(26, true),
    (11, true)]
  outs := look [] [(26, outs26),
    (20, outs20),
    (27, outs27),
    (30, outs30),
    (11, outs11),
    (39, outs39),
    (31, outs31),
    (12, outs12),
    (15, outs15),
    (54, outs54),
    (43, outs43),
    (64, outs64),
    (55, outs55),
    (44, outs44),
    (57, outs57),
    (56, outs56),
    (58, outs58),
    (59, outs59),
    (45, outs45),
    (60, outs60),
    (61, outs61),
    (46, outs46),
    (65, outs65),
    (62, outs62),
    (47, outs47),
    (34, outs34),
    (16, outs16),
    (25, outs25),
    (13, outs13),
    (9, outs9)]
  mouts := look [] [(26, mouts26),
    (27, mouts27),
    (30, mouts30),
    (11, mouts11),
    (56, mouts56),
    (59, mouts59),
    (60, mouts60)]
  live := look2 ⟨0, [], []⟩ [(11, 0, S11_0),
    (11, 2, S11_2),
    (39, 0, S39_0),
    (54, 0, S54_0),
    (55, 0, S55_0),
    (57, 0, S57_0),
    (59, 0, S59s0_0),
    (65, 0, S65_0)]
  exits := look2 [] [(11, 0, [(.exit 0, S11_0_e0)]),
    (11, 2, [(.exit 2, S11_2_e2)]),
    (39, 0, [(.ret, S39_0_r), (.exit 0, S39_0_e0)]),
    (54, 0, [(.ret, S54_0_r), (.exit 0, S54_0_e0)]),
    (55, 0, [(.ret, S55_0_r), (.exit 0, S55_0_e0)]),
    (57, 0, [(.exit 0, S57_0_e0)]),
    (59, 0, [(.exit 0, S59s0_0_e0)]),
    (65, 0, [(.exit 0, S65_0_e0)])]
end Go.Proofs.Ytanjfmogmlgphaa.Am
