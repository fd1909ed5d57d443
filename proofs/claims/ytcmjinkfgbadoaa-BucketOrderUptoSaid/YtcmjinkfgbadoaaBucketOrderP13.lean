/- Functions, and what the code asks of them: PPdqSc. -/
import Derived.Test.YtcmjinkfgbadoaaBucketOrderP4
import Derived.Test.YtcmjinkfgbadoaaBucketOrderP5
import Derived.Test.YtcmjinkfgbadoaaBucketOrderP6
import Derived.Test.YtcmjinkfgbadoaaBucketOrderP7
import Derived.Test.YtcmjinkfgbadoaaBucketOrderP8
import Derived.Test.YtcmjinkfgbadoaaBucketOrderP9
import Derived.Test.YtcmjinkfgbadoaaBucketOrderP10
import Derived.Test.YtcmjinkfgbadoaaBucketOrderP12
set_option linter.unusedVariables false
set_option linter.unusedSimpArgs false
set_option linter.unusedSectionVars false
namespace Go.Abs
open Go
end Go.Abs
