/- Functions, and what the code asks of them: PObj2. -/
import Derived.Test.YtcmjinkfgbadoaaBucketOrderP4
import Derived.Test.YtcmjinkfgbadoaaBucketOrderP5
import Derived.Test.YtcmjinkfgbadoaaBucketOrderP6
import Derived.Test.YtcmjinkfgbadoaaBucketOrderP7
import Derived.Test.YtcmjinkfgbadoaaBucketOrderP8
import Derived.Test.YtcmjinkfgbadoaaBucketOrderP9
import Derived.Test.YtcmjinkfgbadoaaBucketOrderP10
import Derived.Test.YtcmjinkfgbadoaaBucketOrderP11
import Derived.Test.YtcmjinkfgbadoaaBucketOrderP12
import Derived.Test.YtcmjinkfgbadoaaBucketOrderP15
import Derived.Test.YtcmjinkfgbadoaaBucketOrderP16
import Derived.Test.YtcmjinkfgbadoaaBucketOrderP17
import Derived.Test.YtcmjinkfgbadoaaBucketOrderP18
import Derived.Test.YtcmjinkfgbadoaaBucketOrderP20
set_option linter.unusedVariables false
set_option linter.unusedSimpArgs false
set_option linter.unusedSectionVars false
namespace Go.Abs
open Go
end Go.Abs
