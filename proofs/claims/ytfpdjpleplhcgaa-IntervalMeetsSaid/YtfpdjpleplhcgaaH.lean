/- PRINTED by amprint.py: the shapes that the abstract machine is told. -/
import Derived.Test.YtfpdjpleplhcgaaAmLim
import Derived.Test.YtfpdjpleplhcgaaProg
set_option linter.unusedVariables false
namespace Go.Proofs.Ytfpdjpleplhcgaa.Am
open Go Go.Proofs

def look {α : Type} (d : α) : List (Nat × α) → Nat → α
  | [], _ => d
  | (k, x) :: r, f => bif Nat.beq k f then x else look d r f
def look2 {α : Type} (d : α) : List (Nat × Nat × α) → Nat → Nat → α
  | [], _, _ => d
  | (k, b, x) :: r, f, g => bif Nat.beq k f && Nat.beq b g then x else look2 d r f g
/-- the body of the loop in block b -/
def loopIn (b : Nat) : Nat → Code → Option Code
  | bid, .seq x y => match loopIn b bid x with | some c => some c | none => loopIn b bid y
  | bid, .cond _ x y => match loopIn b bid x with | some c => some c | none => loopIn b bid y
  | _, .block i c => loopIn b i c
  | bid, .loop c => bif Nat.beq bid b then some c else loopIn b bid c
  | _, _ => none
def loopOf (fn : Func) (b : Nat) : Code := match fn.body with
  | some c => match loopIn b 0 c with | some c => c | none => .skip
  | none => .skip

abbrev outs41 : List Vt := [.c (.int .i64)]
abbrev mouts41 : List Mt := []
abbrev outs102 : List Vt := [.c (.int .i64)]
abbrev mouts102 : List Mt := []
abbrev outs43 : List Vt := [.agg [.int .i64, .int .i64]]
abbrev mouts43 : List Mt := []
abbrev outs48 : List Vt := [.c (.bool)]
abbrev mouts48 : List Mt := []
abbrev outs108 : List Vt := [.c (.bool)]
abbrev mouts108 : List Mt := []
abbrev outs49 : List Vt := [.agg [.int .i64, .int .i64], .c (.bool)]
abbrev mouts49 : List Mt := []
abbrev outs50 : List Vt := [.c (.bool)]
abbrev mouts50 : List Mt := []
abbrev outs167 : List Vt := [.c (.int .i64)]
abbrev mouts167 : List Mt := []
abbrev outs168 : List Vt := [.c (.int .i64)]
abbrev mouts168 : List Mt := []
abbrev outs129 : List Vt := [.c (.int .i64)]
abbrev mouts129 : List Mt := []
abbrev outs107 : List Vt := [.agg [.int .i64, .int .i64]]
abbrev mouts107 : List Mt := []
abbrev outs115 : List Vt := [.agg [.int .i64, .int .i64]]
abbrev mouts115 : List Mt := []
abbrev outs69 : List Vt := [.agg [.int .i64, .int .i64]]
abbrev mouts69 : List Mt := []
abbrev S69_0 : StTy := ⟨54, [(4, .c (.ptr 0 0 0)), (6, .c (.int .i64)), (7, .c (.int .i64)), (40, .agg [.int .i64, .int .i64, .int .i64, .int .i64]), (41, .c (.int .i64))], [.cells true [.int .i64, .int .i64]]⟩
abbrev S69_0_e0 : StTy := ⟨54, [(4, .c (.ptr 0 0 0)), (6, .c (.int .i64)), (7, .c (.int .i64))], [.cells true [.int .i64, .int .i64]]⟩
abbrev outs46 : List Vt := [.agg [.int .i64, .int .i64]]
abbrev mouts46 : List Mt := []
abbrev outs67 : List Vt := [.agg [.int .i64, .int .i64]]
abbrev mouts67 : List Mt := []
abbrev outs44 : List Vt := [.c (.bool)]
abbrev mouts44 : List Mt := []
abbrev outs52 : List Vt := [.agg [.int .i64, .int .i64]]
abbrev mouts52 : List Mt := []
abbrev outs51 : List Vt := [.c (.bool)]
abbrev mouts51 : List Mt := []
abbrev outs8 : List Vt := [.c (.bool)]
abbrev mouts8 : List Mt := []
def HH : Hints where
  ro := look true []
  keep _ _ := false
  tmp := look false [(41, true),
    (102, true),
    (43, true),
    (48, true),
    (108, true),
    (49, true),
    (50, true),
    (167, true),
    (168, true),
    (129, true),
    (107, true),
    (115, true),
    (69, true),
    (46, true),
    (67, true),
    (44, true),
    (52, true),
    (51, true),
    (8, true)]
  own := look false []
  outs := look [] [(41, outs41),
    (102, outs102),
    (43, outs43),
    (48, outs48),
    (108, outs108),
    (49, outs49),
    (50, outs50),
    (167, outs167),
    (168, outs168),
    (129, outs129),
    (107, outs107),
    (115, outs115),
    (69, outs69),
    (46, outs46),
    (67, outs67),
    (44, outs44),
    (52, outs52),
    (51, outs51),
    (8, outs8)]
  mouts := look [] []
  live := look2 ⟨0, [], []⟩ [(69, 0, S69_0)]
  exits := look2 [] [(69, 0, [(.exit 0, S69_0_e0)])]
end Go.Proofs.Ytfpdjpleplhcgaa.Am
