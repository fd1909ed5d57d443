/- Functions, and what the code asks of them: PPdqSc2. -/
import Derived.Test.YtcmjinkfgbadoaaBucketPlaysP4
import Derived.Test.YtcmjinkfgbadoaaBucketPlaysP5
import Derived.Test.YtcmjinkfgbadoaaBucketPlaysP6
import Derived.Test.YtcmjinkfgbadoaaBucketPlaysP7
import Derived.Test.YtcmjinkfgbadoaaBucketPlaysP8
import Derived.Test.YtcmjinkfgbadoaaBucketPlaysP9
import Derived.Test.YtcmjinkfgbadoaaBucketPlaysP10
import Derived.Test.YtcmjinkfgbadoaaBucketPlaysP12
import Derived.Test.YtcmjinkfgbadoaaBucketPlaysP13
set_option linter.unusedVariables false
set_option linter.unusedSimpArgs false
set_option linter.unusedSectionVars false
namespace Go.Abs
open Go
end Go.Abs
