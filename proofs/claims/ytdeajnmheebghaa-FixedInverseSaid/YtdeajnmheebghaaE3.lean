/- PRINTED by amprint.py: what the abstract machine answers, function by function. -/
import Derived.Test.YtdeajnmheebghaaH
import Derived.KernelRfl
set_option linter.unusedVariables false
set_option maxRecDepth 100000
namespace Go.Proofs.Ytdeajnmheebghaa.Am
open Go Go.Proofs

end Go.Proofs.Ytdeajnmheebghaa.Am
