/- Functions, and what the code asks of them: PPdqSt2. -/
import Derived.Test.YtcmjinkfgbadoabLabelsPlaysP5
import Derived.Test.YtcmjinkfgbadoabLabelsPlaysP6
import Derived.Test.YtcmjinkfgbadoabLabelsPlaysP7
import Derived.Test.YtcmjinkfgbadoabLabelsPlaysP8
import Derived.Test.YtcmjinkfgbadoabLabelsPlaysP9
import Derived.Test.YtcmjinkfgbadoabLabelsPlaysP10
import Derived.Test.YtcmjinkfgbadoabLabelsPlaysP12
import Derived.Test.YtcmjinkfgbadoabLabelsPlaysP14
import Derived.Test.YtcmjinkfgbadoabLabelsPlaysP18
set_option linter.unusedVariables false
set_option linter.unusedSimpArgs false
set_option linter.unusedSectionVars false
namespace Go.Abs
open Go
end Go.Abs
