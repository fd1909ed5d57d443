/- Functions, and what the code asks of them: PFeas. -/
import Derived.Test.YtfjnkkfhhalepaaBucketNilP4
import Derived.Test.YtfjnkkfhhalepaaBucketNilP5
import Derived.Test.YtfjnkkfhhalepaaBucketNilP6
import Derived.Test.YtfjnkkfhhalepaaBucketNilP7
set_option linter.unusedVariables false
set_option linter.unusedSimpArgs false
set_option linter.unusedSectionVars false
namespace Go.Abs
open Go
end Go.Abs
