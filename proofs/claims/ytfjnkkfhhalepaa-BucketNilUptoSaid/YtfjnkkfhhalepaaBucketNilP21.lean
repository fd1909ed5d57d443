/- Functions, and what the code asks of them: PObj2. -/
import Derived.Test.YtfjnkkfhhalepaaBucketNilP4
import Derived.Test.YtfjnkkfhhalepaaBucketNilP5
import Derived.Test.YtfjnkkfhhalepaaBucketNilP6
import Derived.Test.YtfjnkkfhhalepaaBucketNilP7
import Derived.Test.YtfjnkkfhhalepaaBucketNilP8
import Derived.Test.YtfjnkkfhhalepaaBucketNilP9
import Derived.Test.YtfjnkkfhhalepaaBucketNilP10
import Derived.Test.YtfjnkkfhhalepaaBucketNilP11
import Derived.Test.YtfjnkkfhhalepaaBucketNilP12
import Derived.Test.YtfjnkkfhhalepaaBucketNilP15
import Derived.Test.YtfjnkkfhhalepaaBucketNilP16
import Derived.Test.YtfjnkkfhhalepaaBucketNilP17
import Derived.Test.YtfjnkkfhhalepaaBucketNilP18
import Derived.Test.YtfjnkkfhhalepaaBucketNilP20
set_option linter.unusedVariables false
set_option linter.unusedSimpArgs false
set_option linter.unusedSectionVars false
namespace Go.Abs
open Go
end Go.Abs
