/- Functions, and what the code asks of them: PFeas. -/
import Derived.Test.YtcmjinkfgbadoaaBucketOrderP4
import Derived.Test.YtcmjinkfgbadoaaBucketOrderP5
import Derived.Test.YtcmjinkfgbadoaaBucketOrderP6
import Derived.Test.YtcmjinkfgbadoaaBucketOrderP7
set_option linter.unusedVariables false
set_option linter.unusedSimpArgs false
set_option linter.unusedSectionVars false
namespace Go.Abs
open Go
end Go.Abs
