/- PRINTED by amprint.py: the shapes that the abstract machine is told. -/
import Derived.Test.YtdeajnmheebghaaAmLim
import Derived.Test.YtdeajnmheebghaaProg
set_option linter.unusedVariables false
namespace Go.Proofs.Ytdeajnmheebghaa.Am
open Go Go.Proofs

def look {α : Type} (d : α) : List (Nat × α) → Nat → α
  | [], _ => d
  | (k, x) :: r, f => bif Nat.beq k f then x else look d r f
def look2 {α : Type} (d : α) : List (Nat × Nat × α) → Nat → Nat → α
  | [], _, _ => d
  | (k, b, x) :: r, f, g => bif Nat.beq k f && Nat.beq b g then x else look2 d r f g
/-- the body of the loop in block b -/
def loopIn (b : Nat) : Nat → Code → Option Code
  | bid, .seq x y => match loopIn b bid x with | some c => some c | none => loopIn b bid y
  | bid, .cond _ x y => match loopIn b bid x with | some c => some c | none => loopIn b bid y
  | _, .block i c => loopIn b i c
  | bid, .loop c => bif Nat.beq bid b then some c else loopIn b bid c
  | _, _ => none
def loopOf (fn : Func) (b : Nat) : Code := match fn.body with
  | some c => match loopIn b 0 c with | some c => c | none => .skip
  | none => .skip

abbrev outs19 : List Vt := [.c (.int .i64)]
abbrev mouts19 : List Mt := []
abbrev outs36 : List Vt := [.c (.int .i64)]
abbrev mouts36 : List Mt := []
abbrev outs15 : List Vt := [.c (.int .i64)]
abbrev mouts15 : List Mt := []
abbrev outs21 : List Vt := [.c (.int .i64)]
abbrev mouts21 : List Mt := []
abbrev outs12 : List Vt := [.c (.int .i64)]
abbrev mouts12 : List Mt := []
abbrev S12_0 : StTy := ⟨24, [(0, .c (.int .i64)), (3, .c (.int .i64)), (8, .c (.int .i64))], []⟩
abbrev S12_0_e0 : StTy := ⟨24, [(3, .c (.int .i64))], []⟩
abbrev outs14 : List Vt := [.c (.bool)]
abbrev mouts14 : List Mt := []
abbrev outs37 : List Vt := [.c (.int .i64)]
abbrev mouts37 : List Mt := []
abbrev outs33 : List Vt := [.c (.int .i64), .c (.bool)]
abbrev mouts33 : List Mt := []
abbrev outs31 : List Vt := [.c (.int .i64), .c (.bool)]
abbrev mouts31 : List Mt := []
abbrev outs17 : List Vt := [.c (.int .i64)]
abbrev mouts17 : List Mt := []
abbrev outs23 : List Vt := [.c (.int .i64)]
abbrev mouts23 : List Mt := []
abbrev outs11 : List Vt := [.c (.bool)]
abbrev mouts11 : List Mt := []
def HH : Hints where
  ro := look true []
  keep _ _ := false
  tmp := look false [(19, true),
    (36, true),
    (15, true),
    (21, true),
    (12, true),
    (14, true),
    (37, true),
    (33, true),
    (31, true),
    (17, true),
    (23, true),
    (11, true)]
  own := look false []
  outs := look [] [(19, outs19),
    (36, outs36),
    (15, outs15),
    (21, outs21),
    (12, outs12),
    (14, outs14),
    (37, outs37),
    (33, outs33),
    (31, outs31),
    (17, outs17),
    (23, outs23),
    (11, outs11)]
  mouts := look [] []
  live := look2 ⟨0, [], []⟩ [(12, 0, S12_0)]
  exits := look2 [] [(12, 0, [(.exit 0, S12_0_e0)])]
end Go.Proofs.Ytdeajnmheebghaa.Am
