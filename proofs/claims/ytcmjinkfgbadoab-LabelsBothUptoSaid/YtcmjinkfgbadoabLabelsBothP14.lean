/- Functions, and what the code asks of them: PPdq. -/
import Derived.KernelRfl
import Derived.Sort.AssemblyPlain
import Derived.Sort.Defs
import Derived.Sort.LotD4
import Derived.Sort.LotD5
import Derived.Test.YtcmjinkfgbadoabLabelsBothP5
import Derived.Test.YtcmjinkfgbadoabLabelsBothP10
import Derived.Test.YtcmjinkfgbadoabLabelsBothP12
set_option linter.unusedVariables false
set_option linter.unusedSimpArgs false
set_option linter.unusedSectionVars false
namespace Go.Abs
open Go
set_option linter.unusedVariables false
set_option linter.unusedVariables false
end Go.Abs
