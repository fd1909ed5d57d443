/- Functions, and what the code asks of them: PFeas. -/
import Derived.Test.YtfjnkkfhhalepaaWheelPlaysP4
import Derived.Test.YtfjnkkfhhalepaaWheelPlaysP5
import Derived.Test.YtfjnkkfhhalepaaWheelPlaysP6
import Derived.Test.YtfjnkkfhhalepaaWheelPlaysP7
set_option linter.unusedVariables false
set_option linter.unusedSimpArgs false
set_option linter.unusedSectionVars false
namespace Go.Abs
open Go
end Go.Abs
