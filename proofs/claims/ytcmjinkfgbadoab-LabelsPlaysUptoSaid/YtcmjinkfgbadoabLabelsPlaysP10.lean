/- Functions, and what the code asks of them: PAgent. -/
import Derived.KernelRfl
import Derived.Test.YtcmjinkfgbadoabLabelsPlaysP5
import Derived.Test.YtcmjinkfgbadoabLabelsPlaysP6
import Derived.Test.YtcmjinkfgbadoabLabelsPlaysP7
import Derived.Test.YtcmjinkfgbadoabLabelsPlaysP8
set_option linter.unusedVariables false
set_option linter.unusedSimpArgs false
set_option linter.unusedSectionVars false
namespace Go.Abs
open Go
set_option linter.unusedVariables false
set_option linter.unusedVariables false
set_option linter.unusedVariables false
set_option linter.unusedVariables false
set_option linter.unusedVariables false
set_option linter.unusedVariables false
set_option linter.unusedVariables false
set_option linter.unusedVariables false
set_option linter.unusedVariables false
end Go.Abs
