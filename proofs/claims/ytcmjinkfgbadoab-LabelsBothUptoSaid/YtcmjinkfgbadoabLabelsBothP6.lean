/- Functions, and what the code asks of them: PStr. -/
import Derived.KernelRfl
import Derived.Lib.TrimU
import Derived.Test.YtcmjinkfgbadoabLabelsBothP5
set_option linter.unusedVariables false
set_option linter.unusedSimpArgs false
set_option linter.unusedSectionVars false
namespace Go.Abs
open Go
set_option linter.unusedVariables false
set_option linter.unusedVariables false
set_option linter.unusedVariables false
set_option linter.unusedVariables false
set_option linter.unusedVariables false
end Go.Abs
