/- Functions, and what the code asks of them: PFeas. -/
import Derived.Test.YtcmjinkfgbadoaaBucketMoreP4
import Derived.Test.YtcmjinkfgbadoaaBucketMoreP5
import Derived.Test.YtcmjinkfgbadoaaBucketMoreP6
import Derived.Test.YtcmjinkfgbadoaaBucketMoreP7
set_option linter.unusedVariables false
set_option linter.unusedSimpArgs false
set_option linter.unusedSectionVars false
namespace Go.Abs
open Go
end Go.Abs
