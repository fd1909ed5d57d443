/- Functions, and what the code asks of them: PObj2. -/
import Derived.Test.YtcmjinkfgbadoaaBucketMoreP4
import Derived.Test.YtcmjinkfgbadoaaBucketMoreP5
import Derived.Test.YtcmjinkfgbadoaaBucketMoreP6
import Derived.Test.YtcmjinkfgbadoaaBucketMoreP7
import Derived.Test.YtcmjinkfgbadoaaBucketMoreP8
import Derived.Test.YtcmjinkfgbadoaaBucketMoreP9
import Derived.Test.YtcmjinkfgbadoaaBucketMoreP10
import Derived.Test.YtcmjinkfgbadoaaBucketMoreP11
import Derived.Test.YtcmjinkfgbadoaaBucketMoreP12
import Derived.Test.YtcmjinkfgbadoaaBucketMoreP15
import Derived.Test.YtcmjinkfgbadoaaBucketMoreP16
import Derived.Test.YtcmjinkfgbadoaaBucketMoreP17
import Derived.Test.YtcmjinkfgbadoaaBucketMoreP18
import Derived.Test.YtcmjinkfgbadoaaBucketMoreP20
set_option linter.unusedVariables false
set_option linter.unusedSimpArgs false
set_option linter.unusedSectionVars false
namespace Go.Abs
open Go
end Go.Abs
