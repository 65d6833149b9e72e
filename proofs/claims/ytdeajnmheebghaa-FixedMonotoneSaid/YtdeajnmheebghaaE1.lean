/- PRINTED by amprint.py: what the abstract machine answers, function by function. -/
import Derived.Test.YtdeajnmheebghaaH
import Derived.KernelRfl
set_option linter.unusedVariables false
set_option maxRecDepth 100000
namespace Go.Proofs.Ytdeajnmheebghaa.Am
open Go Go.Proofs

/-! armplan/armplanlaw1.awake -/
theorem fn14 (n : Nat)  : (lvl Try.prog HH (n + 1)).2 14 [] [] =
    callT (lvl Try.prog HH (n + 0)).2 21 [.s (.one (.v (.int .i64 98304))), .s (.one (.v (.int .i64 32768)))] [] outs21 mouts21 fun y1 m2 =>
    bif y1.1 == 49152 then (
      callT (lvl Try.prog HH (n + 0)).2 12 [.s (.one (.v (.int .i64 15)))] [] outs12 mouts12 fun y3 m4 =>
      some (.s (.one (.v (.bool (y3.1 == 3)))), []))
    else
    some (.s (.one (.v (.bool false))), []) := by kernel_rfl

end Go.Proofs.Ytdeajnmheebghaa.Am
