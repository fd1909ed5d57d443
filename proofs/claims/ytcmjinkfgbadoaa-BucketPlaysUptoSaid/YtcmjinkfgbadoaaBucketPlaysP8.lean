/- Functions, and what the code asks of them: PFeas. -/
import Derived.Test.YtcmjinkfgbadoaaBucketPlaysP4
import Derived.Test.YtcmjinkfgbadoaaBucketPlaysP5
import Derived.Test.YtcmjinkfgbadoaaBucketPlaysP6
import Derived.Test.YtcmjinkfgbadoaaBucketPlaysP7
set_option linter.unusedVariables false
set_option linter.unusedSimpArgs false
set_option linter.unusedSectionVars false
namespace Go.Abs
open Go
end Go.Abs
