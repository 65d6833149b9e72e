/- PRINTED by amprint.py: the shapes that the abstract machine is told. -/
import Derived.Test.YtcldcnolhmmegaaAmW
import Derived.Test.YtcldcnolhmmegaaProg
set_option linter.unusedVariables false
namespace Go.Proofs.Ytcldcnolhmmegaa.Am
open Go Go.Proofs

def look {α : Type} (d : α) : List (Nat × α) → Nat → α
  | [], _ => d
  | (k, x) :: r, f => bif Nat.beq k f then x else look d r f
def look2 {α : Type} (d : α) : List (Nat × Nat × α) → Nat → Nat → α
  | [], _, _ => d
  | (k, b, x) :: r, f, g => bif Nat.beq k f && Nat.beq b g then x else look2 d r f g
/-- the body of the loop in block b -/
def loopIn (b : Nat) : Nat → Code → Option Code
  | bid, .seq x y => match loopIn b bid x with | some c => some c | none => loopIn b bid y
  | bid, .cond _ x y => match loopIn b bid x with | some c => some c | none => loopIn b bid y
  | _, .block i c => loopIn b i c
  | bid, .loop c => bif Nat.beq bid b then some c else loopIn b bid c
  | _, _ => none
def loopOf (fn : Func) (b : Nat) : Code := match fn.body with
  | some c => match loopIn b 0 c with | some c => c | none => .skip
  | none => .skip

abbrev outs37 : List Vt := [.c (.ptr 0 0 0)]
abbrev mouts37 : List Mt := [.cells true [.sl 1, .int .i64]]
abbrev outs11 : List Vt := [.c (.int .i64)]
abbrev mouts11 : List Mt := []
abbrev outs39 : List Vt := [.c (.int .i64)]
abbrev mouts39 : List Mt := [.cells true [.sl 1, .int .i64]]
abbrev outs38 : List Vt := [.c (.int .i64)]
abbrev mouts38 : List Mt := [.cells true [.sl 1, .int .i64]]
abbrev outs24 : List Vt := [.c (.sl 6)]
abbrev mouts24 : List Mt := []
abbrev S24_0 : StTy := ⟨60, [(1, .c (.int .i64)), (5, .c (.ptr 0 0 0)), (6, .c (.ptr 1 0 0)), (7, .c (.fs 2)), (8, .c (.int .i64))], [.cells true [.sl 1, .int .i64], .cells true [.int .i64, .int .i64, .int .i64], .arr 6 true]⟩
abbrev S24_0_e0 : StTy := ⟨60, [(7, .c (.fs 0))], [.arr 6 true]⟩
abbrev S24_2 : StTy := ⟨60, [(1, .c (.int .i64)), (5, .c (.ptr 0 0 0)), (6, .c (.ptr 1 0 0)), (7, .c (.fs 2)), (8, .c (.int .i64)), (9, .c (.ptr 3 0 0)), (10, .c (.int .i64))], [.cells true [.sl 1, .int .i64], .cells true [.int .i64, .int .i64, .int .i64], .arr 6 true, .cells true [.int .i64, .int .i64, .int .i64, .int .i64, .int .i64, .int .i64]]⟩
abbrev S24_2_e2 : StTy := ⟨60, [(1, .c (.int .i64)), (5, .c (.ptr 0 0 0)), (6, .c (.ptr 1 0 0)), (7, .c (.fs 2)), (8, .c (.int .i64)), (9, .c (.ptr 3 0 0))], [.cells true [.sl 1, .int .i64], .cells true [.int .i64, .int .i64, .int .i64], .arr 6 true, .cells true [.int .i64, .int .i64, .int .i64, .int .i64, .int .i64, .int .i64]]⟩
abbrev outs23 : List Vt := [.c (.sl 3)]
abbrev mouts23 : List Mt := []
abbrev S23_0 : StTy := ⟨34, [(0, .c (.sl 6)), (3, .c (.fs 0)), (4, .c (.int .i64))], [.arr 3 true]⟩
abbrev S23_0_e0 : StTy := ⟨34, [(3, .c (.fs 0))], [.arr 3 true]⟩
abbrev outs10 : List Vt := [.c (.sl 3), .c (.sl 3), .c (.int .i64)]
abbrev mouts10 : List Mt := []
abbrev outs68 : List Vt := [.c (.bool)]
abbrev mouts68 : List Mt := []
abbrev outs75 : List Vt := [.c (.int .i64)]
abbrev mouts75 : List Mt := []
abbrev S75s0_0 : StTy := ⟨19, [(0, .c (.sl 1)), (1, .c (.raw)), (7, .c (.int .i64)), (8, .c (.int .i64))], []⟩
abbrev S75s0_0_e0 : StTy := ⟨19, [], []⟩
abbrev S75s0_0_r : StTy := ⟨19, [(4, .c (.int .i64))], []⟩
abbrev outs67 : List Vt := [.c (.bool)]
abbrev mouts67 : List Mt := []
abbrev outs49 : List Vt := [.c (.bool)]
abbrev mouts49 : List Mt := []
abbrev outs66 : List Vt := [.c (.int .i64)]
abbrev mouts66 : List Mt := []
abbrev S66s0_0 : StTy := ⟨19, [(0, .c (.sl 3)), (1, .c (.raw)), (7, .c (.int .i64)), (8, .c (.int .i64))], []⟩
abbrev S66s0_0_e0 : StTy := ⟨19, [], []⟩
abbrev S66s0_0_r : StTy := ⟨19, [(4, .c (.int .i64))], []⟩
abbrev outs48 : List Vt := [.c (.bool)]
abbrev mouts48 : List Mt := []
abbrev outs26 : List Vt := [.c (.bool)]
abbrev mouts26 : List Mt := []
abbrev outs27 : List Vt := [.c (.fs 0)]
abbrev mouts27 : List Mt := [.arr 1 true]
abbrev outs69 : List Vt := []
abbrev mouts69 : List Mt := [.arr 1 true, .cells true [.int .i64, .int .i64, .int .i64]]
abbrev S69s0_0 : StTy := ⟨42, [(0, .c (.fs 0)), (1, .c (.ptr 1 0 0)), (3, .c (.int .i64)), (12, .c (.sl 3)), (13, .c (.int .i64)), (14, .c (.int .i64))], [.arr 1 true, .cells true [.int .i64, .int .i64, .int .i64]]⟩
abbrev S69s0_0_e0 : StTy := ⟨42, [], [.arr 1 true, .cells true [.int .i64, .int .i64, .int .i64]]⟩
abbrev S69s0_2 : StTy := ⟨42, [(0, .c (.fs 0)), (1, .c (.ptr 1 0 0)), (3, .c (.int .i64)), (8, .c (.int .i64)), (12, .c (.sl 3)), (13, .c (.int .i64)), (14, .c (.int .i64)), (19, .agg [.int .i64, .int .i64, .int .i64]), (20, .c (.int .i64))], [.arr 1 true, .cells true [.int .i64, .int .i64, .int .i64]]⟩
abbrev S69s0_2_e2 : StTy := ⟨42, [(0, .c (.fs 0)), (1, .c (.ptr 1 0 0)), (3, .c (.int .i64)), (12, .c (.sl 3)), (13, .c (.int .i64)), (14, .c (.int .i64))], [.arr 1 true, .cells true [.int .i64, .int .i64, .int .i64]]⟩
abbrev outs50 : List Vt := [.agg [.int .i64, .int .i64, .int .i64]]
abbrev mouts50 : List Mt := [.cells false [.fs 1, .fs 2, .sl 3, .sl 3, .int .i64, .int .i64, .int .i64, .int .i64, .int .i64, .int .i64], .arr 1 true, .arr 1 true]
abbrev outs51 : List Vt := [.agg [.int .i64, .int .i64, .int .i64]]
abbrev mouts51 : List Mt := []
abbrev S51_0 : StTy := ⟨21, [(1, .c (.ptr 0 0 0)), (2, .c (.ptr 1 0 0)), (5, .agg [.int .i64, .int .i64, .int .i64]), (6, .c (.int .i64))], [.cells true [.int .i64, .int .i64, .int .i64], .cells true [.int .i64, .int .i64, .int .i64]]⟩
abbrev S51_0_e0 : StTy := ⟨21, [(1, .c (.ptr 0 0 0)), (2, .c (.ptr 1 0 0))], [.cells true [.int .i64, .int .i64, .int .i64], .cells true [.int .i64, .int .i64, .int .i64]]⟩
abbrev outs52 : List Vt := [.c (.int .i64)]
abbrev mouts52 : List Mt := []
abbrev outs70 : List Vt := [.c (.bool)]
abbrev mouts70 : List Mt := []
abbrev S70_0 : StTy := ⟨16, [(5, .agg [.int .i64, .int .i64, .int .i64]), (6, .c (.int .i64))], []⟩
abbrev S70_0_e0 : StTy := ⟨16, [], []⟩
abbrev S70_0_r : StTy := ⟨16, [(2, .c (.bool))], []⟩
abbrev outs53 : List Vt := [.agg [.int .i64, .int .i64, .int .i64], .c (.bool)]
abbrev mouts53 : List Mt := []
abbrev S53_0 : StTy := ⟨29, [(1, .c (.ptr 0 0 0)), (2, .c (.ptr 1 0 0)), (4, .c (.ptr 2 0 0)), (5, .c (.int .i64))], [.cells true [.int .i64, .int .i64, .int .i64], .cells true [.int .i64, .int .i64, .int .i64], .cells true [.int .i64, .int .i64, .int .i64]]⟩
abbrev S53_0_e0 : StTy := ⟨29, [(2, .c (.ptr 0 0 0)), (4, .c (.ptr 1 0 0))], [.cells true [.int .i64, .int .i64, .int .i64], .cells true [.int .i64, .int .i64, .int .i64]]⟩
abbrev S53_2 : StTy := ⟨29, [(1, .c (.ptr 0 0 0)), (2, .c (.ptr 1 0 0)), (4, .c (.ptr 2 0 0)), (5, .c (.int .i64)), (13, .c (.int .i64))], [.cells true [.int .i64, .int .i64, .int .i64], .cells true [.int .i64, .int .i64, .int .i64], .cells true [.int .i64, .int .i64, .int .i64]]⟩
abbrev S53_2_e2 : StTy := ⟨29, [(1, .c (.ptr 0 0 0)), (2, .c (.ptr 1 0 0)), (4, .c (.ptr 2 0 0)), (5, .c (.int .i64))], [.cells true [.int .i64, .int .i64, .int .i64], .cells true [.int .i64, .int .i64, .int .i64], .cells true [.int .i64, .int .i64, .int .i64]]⟩
abbrev outs54 : List Vt := [.c (.int .i64)]
abbrev mouts54 : List Mt := []
abbrev S54_0 : StTy := ⟨28, [(1, .c (.sl 3)), (2, .c (.ptr 0 0 0)), (5, .c (.int .i64)), (8, .c (.sl 3)), (9, .c (.int .i64)), (10, .c (.int .i64))], [.cells true [.int .i64, .int .i64, .int .i64]]⟩
abbrev S54_0_e0 : StTy := ⟨28, [(5, .c (.int .i64))], []⟩
abbrev outs55 : List Vt := [.agg [.int .i64, .int .i64, .int .i64]]
abbrev mouts55 : List Mt := []
abbrev outs71 : List Vt := [.c (.bool)]
abbrev mouts71 : List Mt := []
abbrev outs76 : List Vt := [.c (.int .i64)]
abbrev mouts76 : List Mt := []
abbrev S76_0 : StTy := ⟨24, [(0, .c (.int .i64)), (3, .c (.int .i64)), (8, .c (.int .i64))], []⟩
abbrev S76_0_e0 : StTy := ⟨24, [(3, .c (.int .i64))], []⟩
abbrev outs72 : List Vt := [.c (.int .i64)]
abbrev mouts72 : List Mt := []
abbrev outs56 : List Vt := [.c (.int .i64)]
abbrev mouts56 : List Mt := []
abbrev outs73 : List Vt := []
abbrev mouts73 : List Mt := [.arr 1 true]
abbrev S73s0_0 : StTy := ⟨40, [(0, .c (.fs 0)), (1, .c (.int .i64)), (2, .c (.int .i64)), (6, .c (.int .i64)), (9, .c (.fs 0)), (10, .c (.int .i64)), (11, .c (.int .i64))], [.arr 1 true]⟩
abbrev S73s0_0_e0 : StTy := ⟨40, [(0, .c (.fs 0)), (2, .c (.int .i64)), (6, .c (.int .i64))], [.arr 1 true]⟩
abbrev outs57 : List Vt := []
abbrev mouts57 : List Mt := [.cells false [.fs 1, .fs 2, .sl 3, .sl 3, .int .i64, .int .i64, .int .i64, .int .i64, .int .i64, .int .i64], .arr 1 true, .arr 1 true]
abbrev outs28 : List Vt := [.c (.int .i64), .c (.bool)]
abbrev mouts28 : List Mt := [.cells false [.fs 1, .fs 2, .sl 3, .sl 3, .int .i64, .int .i64, .int .i64, .int .i64, .int .i64, .int .i64], .arr 1 true, .arr 1 true]
abbrev S28s0_0 : StTy := ⟨161, [(0, .c (.ptr 0 0 0)), (4, .c (.ptr 3 0 0)), (42, .c (.int .i64))], [.cells false [.fs 1, .fs 2, .sl 3, .sl 3, .int .i64, .int .i64, .int .i64, .int .i64, .int .i64, .int .i64], .arr 1 true, .arr 1 true, .cells true [.int .i64, .int .i64, .int .i64]]⟩
abbrev S28s0_0_e0 : StTy := ⟨161, [(0, .c (.ptr 0 0 0)), (4, .c (.ptr 3 0 0))], [.cells false [.fs 1, .fs 2, .sl 3, .sl 3, .int .i64, .int .i64, .int .i64, .int .i64, .int .i64, .int .i64], .arr 1 true, .arr 1 true, .cells true [.int .i64, .int .i64, .int .i64]]⟩
abbrev outs14 : List Vt := [.agg [.int .i64, .int .i64, .int .i64, .int .i64, .sl 1, .sl 1, .int .i64]]
abbrev mouts14 : List Mt := []
abbrev S14_0 : StTy := ⟨71, [(8, .c (.ptr 0 0 0)), (9, .c (.ptr 1 0 0)), (10, .c (.int .i64)), (11, .c (.bool))], [.cells true [.int .i64, .int .i64, .int .i64, .int .i64, .raw, .raw, .int .i64], .cells false [.fs 2, .fs 3, .sl 3, .sl 3, .int .i64, .int .i64, .int .i64, .int .i64, .int .i64, .int .i64], .arr 1 true, .arr 1 true]⟩
abbrev S14_0_e0 : StTy := ⟨71, [(8, .c (.ptr 0 0 0)), (9, .c (.ptr 1 0 0)), (10, .c (.int .i64))], [.cells true [.int .i64, .int .i64, .int .i64, .int .i64, .raw, .raw, .int .i64], .cells false [.fs 2, .fs 3, .sl 3, .sl 3, .int .i64, .int .i64, .int .i64, .int .i64, .int .i64, .int .i64], .arr 1 true, .arr 1 true]⟩
abbrev outs74 : List Vt := [.c (.int .i64)]
abbrev mouts74 : List Mt := []
abbrev outs60 : List Vt := [.agg [.int .i64, .int .i64]]
abbrev mouts60 : List Mt := []
abbrev outs33 : List Vt := [.agg [.int .i64, .int .i64, .int .i64, .int .i64, .int .i64, .int .i64]]
abbrev mouts33 : List Mt := []
abbrev outs17 : List Vt := [.c (.sl 6)]
abbrev mouts17 : List Mt := []
abbrev S17_0 : StTy := ⟨20, [(0, .c (.sl 3)), (3, .c (.fs 0)), (4, .c (.int .i64))], [.arr 6 true]⟩
abbrev S17_0_e0 : StTy := ⟨20, [(3, .c (.fs 0))], [.arr 6 true]⟩
abbrev outs58 : List Vt := [.c (.bool)]
abbrev mouts58 : List Mt := []
abbrev S58_0 : StTy := ⟨23, [(1, .c (.int .i64)), (2, .c (.ptr 0 0 0)), (5, .c (.int .i64))], [.cells true [.int .i64, .int .i64, .int .i64]]⟩
abbrev S58_0_e0 : StTy := ⟨23, [], []⟩
abbrev S58_0_r : StTy := ⟨23, [(4, .c (.bool))], []⟩
abbrev outs30 : List Vt := [.c (.bool)]
abbrev mouts30 : List Mt := []
abbrev outs59 : List Vt := [.c (.bool)]
abbrev mouts59 : List Mt := []
abbrev S59_0 : StTy := ⟨31, [(1, .c (.ptr 0 0 0)), (3, .c (.int .i64))], [.cells true [.int .i64, .int .i64, .int .i64, .int .i64, .int .i64, .int .i64]]⟩
abbrev S59_0_e0 : StTy := ⟨31, [], []⟩
abbrev S59_0_r : StTy := ⟨31, [(2, .c (.bool))], []⟩
abbrev outs31 : List Vt := [.c (.bool)]
abbrev mouts31 : List Mt := []
abbrev S31_0 : StTy := ⟨28, [(0, .c (.sl 6)), (3, .c (.int .i64))], []⟩
abbrev S31_0_e0 : StTy := ⟨28, [(0, .c (.sl 6))], []⟩
abbrev S31_0_r : StTy := ⟨28, [(2, .c (.bool))], []⟩
abbrev outs32 : List Vt := [.c (.int .i64), .c (.int .i64)]
abbrev mouts32 : List Mt := []
abbrev S32_0 : StTy := ⟨51, [(2, .c (.ptr 0 0 0)), (3, .c (.ptr 1 0 0)), (6, .c (.int .i64)), (7, .c (.int .i64)), (8, .c (.int .i64))], [.cells true [.int .i64, .int .i64, .int .i64], .cells true [.int .i64, .int .i64, .int .i64, .int .i64, .int .i64, .int .i64]]⟩
abbrev S32_0_e0 : StTy := ⟨51, [(6, .c (.int .i64)), (7, .c (.int .i64))], []⟩
abbrev outs16 : List Vt := [.c (.int .i64), .c (.int .i64), .c (.bool)]
abbrev mouts16 : List Mt := []
abbrev S16_0 : StTy := ⟨46, [(1, .c (.sl 6)), (2, .c (.ptr 0 0 0)), (7, .c (.int .i64)), (8, .c (.int .i64)), (9, .c (.int .i64))], [.cells true [.int .i64, .int .i64, .int .i64]]⟩
abbrev S16_0_e0 : StTy := ⟨46, [(7, .c (.int .i64)), (8, .c (.int .i64))], []⟩
abbrev outs18 : List Vt := [.c (.int .i64), .c (.int .i64), .c (.bool)]
abbrev mouts18 : List Mt := []
abbrev S18_0 : StTy := ⟨46, [(1, .c (.sl 6)), (2, .c (.ptr 0 0 0)), (7, .c (.int .i64)), (8, .c (.int .i64)), (9, .c (.int .i64))], [.cells true [.int .i64, .int .i64, .int .i64]]⟩
abbrev S18_0_e0 : StTy := ⟨46, [(7, .c (.int .i64)), (8, .c (.int .i64))], []⟩
abbrev outs12 : List Vt := [.c (.bool)]
abbrev mouts12 : List Mt := []
abbrev outs61 : List Vt := [.c (.int .i64)]
abbrev mouts61 : List Mt := []
abbrev S61_0 : StTy := ⟨26, [(0, .c (.int .i64)), (3, .c (.int .i64)), (4, .c (.int .i64))], []⟩
abbrev S61_0_e0 : StTy := ⟨26, [(3, .c (.int .i64))], []⟩
abbrev outs34 : List Vt := [.c (.int .i64)]
abbrev mouts34 : List Mt := []
abbrev outs19 : List Vt := [.c (.int .i64)]
abbrev mouts19 : List Mt := []
abbrev outs29 : List Vt := [.c (.int .i64)]
abbrev mouts29 : List Mt := []
abbrev S29_0 : StTy := ⟨18, [(0, .c (.sl 1)), (3, .c (.int .i64)), (4, .c (.int .i64))], []⟩
abbrev S29_0_e0 : StTy := ⟨18, [(3, .c (.int .i64))], []⟩
abbrev outs15 : List Vt := [.c (.bool)]
abbrev mouts15 : List Mt := []
abbrev S15_0 : StTy := ⟨33, [(0, .c (.sl 1)), (1, .c (.int .i64)), (5, .c (.int .i64))], []⟩
abbrev S15_0_e0 : StTy := ⟨33, [(0, .c (.sl 1)), (1, .c (.int .i64))], []⟩
abbrev S15_0_r : StTy := ⟨33, [(4, .c (.bool))], []⟩
abbrev outs62 : List Vt := [.agg [.int .i64, .int .i64, .int .i64, .int .i64, .int .i64, .int .i64], .c (.int .i64), .c (.bool)]
abbrev mouts62 : List Mt := []
abbrev S62_0 : StTy := ⟨103, [(0, .c (.sl 6)), (1, .c (.sl 1)), (4, .c (.ptr 0 0 0)), (7, .c (.int .i64)), (8, .c (.int .i64))], [.cells true [.int .i64, .int .i64, .int .i64, .int .i64, .int .i64, .int .i64]]⟩
abbrev S62_0_e0 : StTy := ⟨103, [(0, .c (.sl 6)), (1, .c (.sl 1)), (4, .c (.ptr 0 0 0)), (7, .c (.int .i64))], [.cells true [.int .i64, .int .i64, .int .i64, .int .i64, .int .i64, .int .i64]]⟩
abbrev S62_0_r : StTy := ⟨103, [(4, .c (.ptr 0 0 0)), (5, .c (.int .i64)), (6, .c (.bool))], [.cells true [.int .i64, .int .i64, .int .i64, .int .i64, .int .i64, .int .i64]]⟩
abbrev S62_2 : StTy := ⟨103, [(0, .c (.sl 6)), (1, .c (.sl 1)), (4, .c (.ptr 0 0 0)), (7, .c (.int .i64)), (9, .c (.ptr 1 0 0)), (10, .c (.int .i64))], [.cells true [.int .i64, .int .i64, .int .i64, .int .i64, .int .i64, .int .i64], .cells true [.int .i64, .int .i64, .int .i64, .int .i64, .int .i64, .int .i64]]⟩
abbrev S62_2_e2 : StTy := ⟨103, [(4, .c (.ptr 0 0 0)), (7, .c (.int .i64)), (9, .c (.ptr 1 0 0))], [.cells true [.int .i64, .int .i64, .int .i64, .int .i64, .int .i64, .int .i64], .cells true [.int .i64, .int .i64, .int .i64, .int .i64, .int .i64, .int .i64]]⟩
abbrev S62_4 : StTy := ⟨103, [(0, .c (.sl 6)), (1, .c (.sl 1)), (4, .c (.ptr 0 0 0)), (7, .c (.int .i64)), (9, .c (.ptr 1 0 0)), (10, .c (.int .i64)), (11, .c (.int .i64))], [.cells true [.int .i64, .int .i64, .int .i64, .int .i64, .int .i64, .int .i64], .cells true [.int .i64, .int .i64, .int .i64, .int .i64, .int .i64, .int .i64]]⟩
abbrev S62_4_e4 : StTy := ⟨103, [(0, .c (.sl 6)), (1, .c (.sl 1)), (4, .c (.ptr 0 0 0)), (7, .c (.int .i64)), (9, .c (.ptr 1 0 0)), (10, .c (.int .i64))], [.cells true [.int .i64, .int .i64, .int .i64, .int .i64, .int .i64, .int .i64], .cells true [.int .i64, .int .i64, .int .i64, .int .i64, .int .i64, .int .i64]]⟩
abbrev outs63 : List Vt := [.c (.bool)]
abbrev mouts63 : List Mt := []
abbrev outs65 : List Vt := [.c (.int .i64)]
abbrev mouts65 : List Mt := []
abbrev outs64 : List Vt := [.c (.int .i64)]
abbrev mouts64 : List Mt := []
abbrev outs35 : List Vt := [.c (.int .i64), .c (.bool)]
abbrev mouts35 : List Mt := []
abbrev S35_0 : StTy := ⟨103, [(3, .c (.int .i64)), (5, .c (.int .i64)), (14, .c (.ptr 0 0 0)), (15, .c (.int .i64)), (17, .c (.ptr 1 0 0)), (20, .c (.int .i64)), (21, .c (.int .i64))], [.cells true [.int .i64, .int .i64, .int .i64, .int .i64, .int .i64, .int .i64], .cells true [.int .i64, .int .i64, .int .i64, .int .i64, .int .i64, .int .i64]]⟩
abbrev S35_0_e0 : StTy := ⟨103, [(20, .c (.int .i64))], []⟩
abbrev S35_0_r : StTy := ⟨103, [(12, .c (.int .i64)), (13, .c (.bool))], []⟩
abbrev outs20 : List Vt := [.c (.bool)]
abbrev mouts20 : List Mt := []
abbrev outs5 : List Vt := [.c (.bool)]
abbrev mouts5 : List Mt := []
def HH : Hints where
  ro := look true [(39, false),
    (38, false),
    (69, false),
    (50, false),
    (73, false),
    (57, false),
    (28, false)]
  keep := look2 false [(69, 0, true),
    (73, 0, true)]
  tmp := look false [(11, true),
    (68, true),
    (75, true),
    (67, true),
    (49, true),
    (66, true),
    (48, true),
    (26, true),
    (51, true),
    (52, true),
    (70, true),
    (53, true),
    (54, true),
    (55, true),
    (71, true),
    (76, true),
    (72, true),
    (56, true),
    (74, true),
    (60, true),
    (33, true),
    (58, true),
    (30, true),
    (59, true),
    (31, true),
    (32, true),
    (16, true),
    (18, true),
    (12, true),
    (61, true),
    (34, true),
    (19, true),
    (29, true),
    (15, true),
    (62, true),
    (63, true),
    (65, true),
    (64, true),
    (35, true),
    (20, true),
    (5, true)]
  own := look false [(37, true),
    (27, true)]
  outs := look [] [(37, outs37),
    (11, outs11),
    (39, outs39),
    (38, outs38),
    (24, outs24),
    (23, outs23),
    (10, outs10),
    (68, outs68),
    (75, outs75),
    (67, outs67),
    (49, outs49),
    (66, outs66),
    (48, outs48),
    (26, outs26),
    (27, outs27),
    (69, outs69),
    (50, outs50),
    (51, outs51),
    (52, outs52),
    (70, outs70),
    (53, outs53),
    (54, outs54),
    (55, outs55),
    (71, outs71),
    (76, outs76),
    (72, outs72),
    (56, outs56),
    (73, outs73),
    (57, outs57),
    (28, outs28),
    (14, outs14),
    (74, outs74),
    (60, outs60),
    (33, outs33),
    (17, outs17),
    (58, outs58),
    (30, outs30),
    (59, outs59),
    (31, outs31),
    (32, outs32),
    (16, outs16),
    (18, outs18),
    (12, outs12),
    (61, outs61),
    (34, outs34),
    (19, outs19),
    (29, outs29),
    (15, outs15),
    (62, outs62),
    (63, outs63),
    (65, outs65),
    (64, outs64),
    (35, outs35),
    (20, outs20),
    (5, outs5)]
  mouts := look [] [(37, mouts37),
    (39, mouts39),
    (38, mouts38),
    (27, mouts27),
    (69, mouts69),
    (50, mouts50),
    (73, mouts73),
    (57, mouts57),
    (28, mouts28)]
  live := look2 ⟨0, [], []⟩ [(24, 0, S24_0),
    (24, 2, S24_2),
    (23, 0, S23_0),
    (75, 0, S75s0_0),
    (66, 0, S66s0_0),
    (69, 0, S69s0_0),
    (69, 2, S69s0_2),
    (51, 0, S51_0),
    (70, 0, S70_0),
    (53, 0, S53_0),
    (53, 2, S53_2),
    (54, 0, S54_0),
    (76, 0, S76_0),
    (73, 0, S73s0_0),
    (28, 0, S28s0_0),
    (14, 0, S14_0),
    (17, 0, S17_0),
    (58, 0, S58_0),
    (59, 0, S59_0),
    (31, 0, S31_0),
    (32, 0, S32_0),
    (16, 0, S16_0),
    (18, 0, S18_0),
    (61, 0, S61_0),
    (29, 0, S29_0),
    (15, 0, S15_0),
    (62, 0, S62_0),
    (62, 2, S62_2),
    (62, 4, S62_4),
    (35, 0, S35_0)]
  exits := look2 [] [(24, 0, [(.exit 0, S24_0_e0)]),
    (24, 2, [(.exit 2, S24_2_e2)]),
    (23, 0, [(.exit 0, S23_0_e0)]),
    (75, 0, [(.ret, S75s0_0_r), (.exit 0, S75s0_0_e0)]),
    (66, 0, [(.ret, S66s0_0_r), (.exit 0, S66s0_0_e0)]),
    (69, 0, [(.exit 0, S69s0_0_e0)]),
    (69, 2, [(.exit 2, S69s0_2_e2)]),
    (51, 0, [(.exit 0, S51_0_e0)]),
    (70, 0, [(.ret, S70_0_r), (.exit 0, S70_0_e0)]),
    (53, 0, [(.exit 0, S53_0_e0)]),
    (53, 2, [(.exit 2, S53_2_e2)]),
    (54, 0, [(.exit 0, S54_0_e0)]),
    (76, 0, [(.exit 0, S76_0_e0)]),
    (73, 0, [(.exit 0, S73s0_0_e0)]),
    (28, 0, [(.exit 0, S28s0_0_e0)]),
    (14, 0, [(.exit 0, S14_0_e0)]),
    (17, 0, [(.exit 0, S17_0_e0)]),
    (58, 0, [(.ret, S58_0_r), (.exit 0, S58_0_e0)]),
    (59, 0, [(.ret, S59_0_r), (.exit 0, S59_0_e0)]),
    (31, 0, [(.ret, S31_0_r), (.exit 0, S31_0_e0)]),
    (32, 0, [(.exit 0, S32_0_e0)]),
    (16, 0, [(.exit 0, S16_0_e0)]),
    (18, 0, [(.exit 0, S18_0_e0)]),
    (61, 0, [(.exit 0, S61_0_e0)]),
    (29, 0, [(.exit 0, S29_0_e0)]),
    (15, 0, [(.ret, S15_0_r), (.exit 0, S15_0_e0)]),
    (62, 0, [(.ret, S62_0_r), (.exit 0, S62_0_e0)]),
    (62, 2, [(.exit 2, S62_2_e2)]),
    (62, 4, [(.exit 4, S62_4_e4)]),
    (35, 0, [(.ret, S35_0_r), (.exit 0, S35_0_e0)])]
def symL : Nat → Nat → Bool := look2 false [(14, 0, true),
    (15, 0, true),
    (16, 0, true),
    (17, 0, true),
    (18, 0, true),
    (23, 0, true),
    (24, 0, true),
    (29, 0, true),
    (31, 0, true),
    (53, 0, true),
    (54, 0, true),
    (61, 0, true),
    (62, 0, true),
    (62, 2, true),
    (66, 0, true),
    (69, 0, true),
    (73, 0, true),
    (75, 0, true),
    (76, 0, true)]
end Go.Proofs.Ytcldcnolhmmegaa.Am
