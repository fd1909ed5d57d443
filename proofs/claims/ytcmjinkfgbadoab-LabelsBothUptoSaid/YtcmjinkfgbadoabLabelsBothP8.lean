/- Functions, and what the code asks of them: PQuota. -/
import Derived.KernelRfl
import Derived.Test.YtcmjinkfgbadoabLabelsBothP5
import Derived.Test.YtcmjinkfgbadoabLabelsBothP6
import Derived.Test.YtcmjinkfgbadoabLabelsBothP7
set_option linter.unusedVariables false
set_option linter.unusedSimpArgs false
set_option linter.unusedSectionVars false
namespace Go.Abs
open Go
def L20 {α:Type} (l:List α):Prop:=l.length≤1048576
set_option linter.unusedVariables false
set_option linter.unusedVariables false
set_option linter.unusedVariables false
end Go.Abs
